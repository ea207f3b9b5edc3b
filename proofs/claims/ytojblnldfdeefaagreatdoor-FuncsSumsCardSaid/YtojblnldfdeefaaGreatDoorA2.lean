/-
  The frame: Se,Sf,Sg.
-/
import Derived.Test.YtojblnldfdeefaaGreatDoorA1
import Derived.MapKept
import Derived.Sort.Grow
namespace Go.Proofs.YtojblnldfdeefaaGreatDoor
open Go Go.RowKit
section
theorem setRow_eq(w:World)(g:Nat)(old cs:Array Value)(t:TypeId)(fr:Nat×Nat)(hg:w.heap[g]?=some (.cells old t fr)):w.setRow g cs={w with heap:=w.heap.setIfInBounds g (.cells cs t fr)}:=by
  unfold World.setRow;congr 1;apply Array.ext_getElem?;intro i;simp only[Array.getElem?_modify,Array.getElem?_setIfInBounds];split
  · rename_i e;subst e
    have hlt:g<w.heap.size:=(Array.getElem?_eq_some_iff.1 hg).1;rw[hg,if_pos hlt];rfl
  rfl
theorem RelV.oneCell{g:G}{x:AV}{v:Value}(h:RelV g x v)(h1:x.one=true):v.oneCell'=true:=by
  cases h<;>first|rfl|(simp[AV.one]at h1;done)
theorem RelV.rcells{g:G}{x:AV}{v:Value}(h:RelV g x v)(h1:x.one=true∨∃cs,x= .agg cs):RelCells g x.cells v.cells:=by
  rcases h1 with h1|⟨cs,rfl⟩
  · have hv:=h.oneCell h1;have e1:x.cells=[x]:=by cases x<;>first|rfl|(simp[AV.one]at h1;done)
    have e2:v.cells= #[v]:=by cases v<;>first|rfl|(simp[Value.oneCell']at hv;done)
    rw[e1,e2];exact RelCells.one h
  obtain⟨vs,rfl,hr⟩:=h.cells_agg;exact hr
section
variable{P:Program}{env:Env}{H:Heap}{dst:Option Tmp}{ty:TypeId}{pos:String}{af:Array Edge}{gd:Option (Nat×Bool)}
/-! ### loads -/
theorem pure_load1{T:TypeId}{x:Operand}{c:AV}{cs:List AV}(ha:∀w,(isAgg T).run P w= .ok false w)(hx:Ev env x (.iptr (c::cs))):APure P ⟨dst,.load T x,ty,pos,af,gd⟩ env c:=by
  intro g n a ka;obtain⟨v,he,hv⟩:=ev1 hx ka;cases hv with
  |iptr cs b off vs hi hr=>
    refine⟨vs 0,hr 0 c rfl,λw hw=>?_⟩;have h0:=hw b off (vs 0) (hi 0 (by simp));simp[execOp,he,Instr.loadAt,Instr.sureAddr,loadVar,ha,h0]
theorem pure_loadN{T:TypeId}{x:Operand}{k:Nat}{cs:List AV}(ha:∀w,(isAgg T).run P w= .ok true w)(hs:∀w,(sizeOf T).run P w= .ok k w)(hx:Ev env x (.iptr cs))(hk:k≤cs.length):
    APure P ⟨dst,.load T x,ty,pos,af,gd⟩ env (.agg (cs.take k)):=by
  intro g n a ka;obtain⟨v,he,hv⟩:=ev1 hx ka;cases hv with
  |iptr cs b off vs hi hr=>
    obtain⟨h1,h2⟩:=imm_load (P:=P) hi hr hk;exact⟨_,.agg _ _ h1.1 h1.2,λw hw=>by simp[execOp,he,Instr.loadAt,Instr.sureAddr,loadVar,ha,hs,h2 w hw]⟩
theorem step_load1{T S:TypeId}{x:Operand}{b o:Nat}{c:AV}{cs:List AV}(ha:∀w,(isAgg T).run P w= .ok false w)(hx:Ev env x (.ptr (some ⟨b,o,none⟩)))(hb:H.objs b=some (.box S cs))(hc:cs[o]?=some c):
    AStep P ⟨dst,.load T x,ty,pos,af,gd⟩ env H (λy H'=>y=c∧H'=H):=by
  intro g n a w ka s;obtain⟨v,he,hv⟩:=ev1 hx ka;cases hv
  obtain⟨u,hu,hr⟩:=s.box_cell hb hc;have:(execOp a.eval ⟨dst,.load T x,ty,pos,af,gd⟩).run P w= .ok (.value u) w:=by simp[execOp,he,Instr.loadAt,Instr.sureAddr,loadVar,ha,hu]
  rw[this];exact⟨g,c,H,.id,hr,s,rfl,rfl⟩
theorem step_loadN{T S:TypeId}{x:Operand}{b o k:Nat}{cs:List AV}(ha:∀w,(isAgg T).run P w= .ok true w)(hs:∀w,(sizeOf T).run P w= .ok k w)(hx:Ev env x (.ptr (some ⟨b,o,none⟩)))
    (hb:H.objs b=some (.box S cs))(hk:o+k≤cs.length):AStep P ⟨dst,.load T x,ty,pos,af,gd⟩ env H (λy H'=>y= .agg ((cs.drop o).take k)∧H'=H):=by
  intro g n a w ka s;obtain⟨v,he,hv⟩:=ev1 hx ka;cases hv
  obtain⟨vs,hrun,hrel⟩:=box_load (P:=P) s hb hk;have:(execOp a.eval ⟨dst,.load T x,ty,pos,af,gd⟩).run P w= .ok (.value (.agg vs)) w:=by simp[execOp,he,Instr.loadAt,Instr.sureAddr,loadVar,ha,hs,hrun]
  rw[this];exact⟨g,_,H,.id,.agg _ vs hrel.1 hrel.2,s,rfl,rfl⟩
/-! ### stores -/
theorem row_put_get(cur:List Value)(o:Nat)(vs:List Value)(h:o+vs.length≤cur.length)(i:Nat):(cur.take o++vs++cur.drop (o+vs.length))[i]?=if o≤i∧i<o+vs.length then vs[i-o]? else cur[i]?:=by
  rw[List.append_assoc,List.getElem?_append];simp only[List.length_take];rw[show min o cur.length=o by omega];split
  · rename_i h1
    rw[if_neg (by omega),List.getElem?_take,if_pos h1]
  rename_i h1
  rw[List.getElem?_append];split
  · rename_i h2;rw[if_pos (by omega)]
  rename_i h2
  rw[if_neg (by omega),List.getElem?_drop];congr 1;omega
def putRow(cs:List AV)(o:Nat)(ds:List AV):List AV:=cs.take o++ds++cs.drop (o+ds.length)
theorem RelCells.putRow{g:G}{cs ds:List AV}{vs us:Array Value}(h:RelCells g cs vs)(k:RelCells g ds us){o:Nat}(ho:o+ds.length≤cs.length):
    RelCells g (putRow cs o ds) (vs.toList.take o++us.toList++vs.toList.drop (o+us.toList.length)).toArray:=by
  have e1:=h.1;have e2:=k.1;refine⟨by simp[Go.Proofs.YtojblnldfdeefaaGreatDoor.putRow];omega,λi c v hc hv=>?_⟩;have hv':(vs.toList.take o++us.toList++vs.toList.drop (o+us.toList.length))[i]?=some v:=by simpa using hv
  rw[row_put_get _ _ _ (by simp;omega)]at hv';have hc':(cs.take o++ds++cs.drop (o+ds.length))[i]?=some c:=hc;have hcc:(cs.take o++ds++cs.drop (o+ds.length))[i]?=if o≤i∧i<o+ds.length then ds[i-o]? else cs[i]?:=by
    rw[List.append_assoc,List.getElem?_append];simp only[List.length_take];rw[show min o cs.length=o by omega];split
    · rename_i h1;rw[if_neg (by omega),List.getElem?_take,if_pos h1]
    rename_i h1
    rw[List.getElem?_append];split
    · rename_i h2;rw[if_pos (by omega)]
    rename_i h2;rw[if_neg (by omega),List.getElem?_drop];congr 1;omega
  rw[hcc]at hc';by_cases hin:o≤i∧i<o+ds.length
  · rw[if_pos hin]at hc';rw[if_pos (by simp;omega)]at hv';exact k.2 _ c v hc' (by simpa using hv')
  rw[if_neg hin]at hc';rw[if_neg (by simp;omega)]at hv';exact h.2 i c v hc' (by simpa using hv')
theorem run_storeCells_th(g o:Nat)(t:TypeId)(fz:Nat×Nat):∀(vs:List Value)(i:Nat)(cur:Array Value)(w:World),w.heap[g]?=some (.cells cur t fz)→Thaw cur.size fz→o+i+vs.length≤cur.size→(∀v∈vs,v.oneCell'=true)→
    (storeCells ⟨g,o,none⟩ vs i).run P w= .ok () (w.setRow g (cur.toList.take (o+i)++vs++cur.toList.drop (o+i+vs.length)).toArray)
  | [],i,cur,w,hg,_,_,_=>by
    simp only[storeCells,List.append_nil,List.length_nil,Nat.add_zero,List.take_append_drop,Array.toArray_toList];rw[setRow_self w g cur t fz hg];rfl
  |v::rest,i,cur,w,hg,hth,hl,h1=>by
    have hi:o+i<cur.size:=by simp at hl;omega
    have hadd:(⟨g,o,none⟩:Addr).add i=⟨g,o+i,none⟩:=by unfold Addr.add;split<;>simp_all
    have hcell:w.cell? ⟨g,o+i,none⟩=some cur[o+i]:=by simp[World.cell?,hg,hi]
    have hfro:w.frozen? ⟨g,o+i,none⟩=false:=by
      rcases hth with rfl|hth
      · simp[World.frozen?,hg]
      obtain⟨lo,hi'⟩:=fz;simp only[World.frozen?,hg,Bool.and_eq_false_iff,decide_eq_false_iff_not]
      left
      simp only at hth;omega
    have hst:(store ((⟨g,o,none⟩:Addr).add i) v).run P w= .ok () (w.setRow g (cur.setIfInBounds (o+i) v)):=by
      rw[hadd,run_store P w _ v _ (h1 v (by simp)),hcell];simp[hfro,setCell_eq_setRow w g (o+i) cur t fz v hg]
    have ih:=run_storeCells_th g o t fz rest (i+1) (cur.setIfInBounds (o+i) v) (w.setRow g (cur.setIfInBounds (o+i) v)) (setRow_heap w g cur _ t _ hg) (by simpa using hth) (by simp at hl ⊢;omega) (λx hx=>h1 x (by simp[hx]));simp only[storeCells,Sem.run_bind,hst,Result.andThen_ok,ih,setRow_setRow];congr 3;have e:=list_seg_step cur.toList (o+i) v rest (by simp at hl ⊢;omega);simpa[Array.toList_setIfInBounds,Nat.add_assoc]using e
theorem step_store{T S:TypeId}{p x:Operand}{b o k:Nat}{cs:List AV}{y:AV}(hs:∀w,(sizeOf T).run P w= .ok k w)(hp:Ev env p (.ptr (some ⟨b,o,none⟩)))(hx:Ev env x y)
    (hy:y.cells.all AV.one=true)(hyk:y.cells.length=k)(hy1:y.one=true∨∃cs,y= .agg cs)(hb:H.objs b=some (.box S cs))(hk:o+k≤cs.length):
    AStep P ⟨dst,.store T p x,ty,pos,af,gd⟩ env H (λz H'=>z= .raw undef∧H'=H.set b (.box S (putRow cs o y.cells))):=by
  intro g n a w ka s;obtain⟨v,he,hv⟩:=ev1 hp ka;obtain⟨u,hf,hu⟩:=ev1 hx ka;cases hv
  obtain⟨vs,⟨fz,hw,hth⟩,hrel⟩:=s.box b S cs hb;have hcells:=hu.rcells hy1;have hsz:u.cells.size=k:=by rw[←hcells.1];exact hyk
  have hone:∀v∈u.cells.toList,v.oneCell'=true:=λv hv=>by
    obtain⟨i,hi,hiv⟩:=List.getElem_of_mem hv;have hi':i<y.cells.length:=by rw[hcells.1];simpa using hi
    have h1:u.cells[i]?=some v:=by rw[←Array.getElem?_toList,List.getElem?_eq_getElem hi,hiv]
    have h2:=hcells.2 i _ v (List.getElem?_eq_getElem hi') h1;exact h2.oneCell (List.all_eq_true.1 hy _ (List.getElem_mem hi'))
  have hrun:=run_storeCells_th (P:=P) b o S fz u.cells.toList 0 vs w hw hth (by have:=hrel.1;simp;omega) hone;have:(execOp a.eval ⟨dst,.store T p x,ty,pos,af,gd⟩).run P w= .ok .skip (w.setRow b (vs.toList.take o++u.cells.toList++vs.toList.drop (o+u.cells.toList.length)).toArray):=by
    simp only[Nat.add_zero]at hrun;simp[execOp,he,hf,Instr.storeAt,Instr.sureAddr,storeVar,hs,hsz];rw[show vs.toList.take o++u.cells.toList=(List.take o vs.toList++u.cells.toList)from rfl]at hrun;simp[hsz]at hrun;rw[hrun];rfl
  rw[this];refine⟨g,.raw undef,_,.id,.raw _,?_,rfl,rfl⟩;refine s.turn hb (λj hj=>setRow_other w b j _ hj) (by simp) rfl rfl rfl ⟨_,⟨fz,setRow_heap w b vs _ S fz hw,?_⟩,hrel.putRow hcells (by omega)⟩;have e:(vs.toList.take o++u.cells.toList++vs.toList.drop (o+u.cells.toList.length)).toArray.size=vs.size:=by have:=hrel.1;simp;omega
  rw[e];exact hth
/-! ### new boxes -/
theorem step_boxI{T:TypeId}{x:Operand}{y:AV}(hx:Ev env x y)(hy1:y.one=true∨∃cs,y= .agg cs):AStep P ⟨dst,.box T x,ty,pos,af,gd⟩ env H (λz H'=>z= .iptr y.cells∧H'=H):=by
  intro g n a w ka s;obtain⟨v,he,hv⟩:=ev1 hx ka;have hcells:=hv.rcells hy1;have:(execOp a.eval ⟨dst,.box T x,ty,pos,af,gd⟩).run P w= .ok (.value (.pointer (some ⟨w.heap.size,0,none⟩))) (w.alloc (.cells v.cells T)):=by
    simp[execOp,he,Instr.box,newVar,newRow]
  rw[this];have s':=s.new_imm v.cells T (0,0) v.cells.size;have hle:g.le (g.addImm w.heap.size λo=>if o<v.cells.size then v.cells[o]? else none):=G.le_addImm (λo u hu=>by rw[s.imm_new]at hu;cases hu);refine⟨_,.iptr y.cells,H,hle,?_,s',rfl,rfl⟩;refine .iptr y.cells _ 0 (λi=>v.cells.getD i undef) (λi hi=>?_) (λi c hc=>?_)
  · have hi':i<v.cells.size:=by rw[←hcells.1];exact hi
    rw[G.imm_addImm];simp[hi']
  obtain⟨u,hu,hr⟩:=hcells.at hc;have:v.cells.getD i undef=u:=by simp[hu]
  rw[this];exact hr.mono hle
theorem step_box{T:TypeId}{x:Operand}{y:AV}(hx:Ev env x y)(hy1:y.one=true∨∃cs,y= .agg cs):
    AStep P ⟨dst,.box T x,ty,pos,af,gd⟩ env H (λz H'=>∃b,H.objs b=none∧z= .ptr (some ⟨b,0,none⟩)∧H'=H.set b (.box T y.cells)):=by
  intro g n a w ka s;obtain⟨v,he,hv⟩:=ev1 hx ka;have hcells:=hv.rcells hy1;have:(execOp a.eval ⟨dst,.box T x,ty,pos,af,gd⟩).run P w= .ok (.value (.pointer (some ⟨w.heap.size,0,none⟩))) (w.alloc (.cells v.cells T)):=by
    simp[execOp,he,Instr.box,newVar,newRow]
  rw[this];exact⟨g,_,_,.id,.ptr _,s.new_box T hcells,w.heap.size,s.new_none,rfl,rfl⟩
theorem step_alloc{T:TypeId}{z:Value}{cs:List AV}(hz:∀w,(zeroValue T).run P w= .ok z w)(hc:∀g,RelCells g cs z.cells):
    AStep P ⟨dst,.alloc T,ty,pos,af,gd⟩ env H (λy H'=>∃b,H.objs b=none∧y= .ptr (some ⟨b,0,none⟩)∧H'=H.set b (.box T cs)):=by
  intro g n a w ka s;have:(execOp a.eval ⟨dst,.alloc T,ty,pos,af,gd⟩).run P w= .ok (.value (.pointer (some ⟨w.heap.size,0,none⟩))) (w.alloc (.cells z.cells T)):=by
    simp[execOp,Instr.alloc,hz,newVar,newRow]
  rw[this];exact⟨g,_,_,.id,.ptr _,s.new_box T (hc g),w.heap.size,s.new_none,rfl,rfl⟩
/-! ### places -/
theorem run_fieldAt{S:TypeId}{fs:Array Field}{f:Nat}{fd:Field}{k:Nat}{b o:Nat}(hu:P.underlying S=some (.struct fs))(hf:fs[f]?=some fd)(hs:∀w,(sizeOf fd.type).run P w= .ok (k+1) w)(w:World):
    (Instr.fieldAt S (.pointer (some ⟨b,o,none⟩)) f).run P w= .ok (.pointer (some ⟨b,o+fd.offset,none⟩)) w:=by
  simp[Instr.fieldAt,underlying,hu,hf,Instr.sureAddr,fieldPlace,hs,Addr.add_off]
theorem pure_fieldI{S:TypeId}{fs:Array Field}{f:Nat}{fd:Field}{k:Nat}{x:Operand}{cs:List AV}(hu:P.underlying S=some (.struct fs))(hf:fs[f]?=some fd)(hs:∀w,(sizeOf fd.type).run P w= .ok (k+1) w)
    (hx:Ev env x (.iptr cs)):APure P ⟨dst,.fieldAddr S x f,ty,pos,af,gd⟩ env (.iptr (cs.drop fd.offset)):=by
  intro g n a ka;obtain⟨v,he,hv⟩:=ev1 hx ka;cases hv with
  |iptr cs b off vs hi hr=>
    refine⟨_,.iptr _ b (off+fd.offset) (λi=>vs (fd.offset+i)) (λi h=>?_) (λi c h=>?_),λw _=>by simp[execOp,he,run_fieldAt hu hf hs]⟩
    · rw[Nat.add_assoc];exact hi _ (by simp at h;omega)
    rw[List.getElem?_drop]at h;exact hr _ _ h
theorem pure_field{S:TypeId}{fs:Array Field}{f:Nat}{fd:Field}{k:Nat}{x:Operand}{b o:Nat}(hu:P.underlying S=some (.struct fs))(hf:fs[f]?=some fd)(hs:∀w,(sizeOf fd.type).run P w= .ok (k+1) w)
    (hx:Ev env x (.ptr (some ⟨b,o,none⟩))):APure P ⟨dst,.fieldAddr S x f,ty,pos,af,gd⟩ env (.ptr (some ⟨b,o+fd.offset,none⟩)):=by
  intro g n a ka;obtain⟨v,he,hv⟩:=ev1 hx ka;cases hv
  exact⟨_,.ptr _,λw _=>by simp[execOp,he,run_fieldAt hu hf hs]⟩
theorem pure_indexS{T E:TypeId}{x i:Operand}{sz:Nat}{xs:List AV}{tl:Tail}{k:IntKind}{m:Int}{e:AV}(hu:P.underlying T=some (.slice E))(hs:∀w,(sizeOf E).run P w= .ok sz w)
    (hx:Ev env x (.slice sz xs tl))(hi:Ev env i (.int k m))(h0:0≤m)(he:xs[m.toNat]?=some e):APure P ⟨dst,.indexAddr T x i,ty,pos,af,gd⟩ env (.iptr e.cells):=by
  intro g n a ka;obtain⟨v,hev,hv⟩:=ev1 hx ka;obtain⟨u,hfu,hu'⟩:=ev1 hi ka;cases hu'
  have hlt:m.toNat<xs.length:=(List.getElem?_eq_some_iff.1 he).1;cases hv with
  |nilSlice=>simp at hlt
  |voidSlice=>simp at hlt
  |slice sz xs tl b off cap vs hsz himm hr hlen hcap htl=>
    have hes:e.cells.length=sz:=(hsz e (List.mem_of_getElem? he)).1;have hmul:m.toNat*sz+sz≤xs.length*sz:=by
      have:=Nat.mul_le_mul_right sz (show m.toNat+1≤xs.length from hlt)
      rwa[Nat.add_mul,Nat.one_mul]at this
    refine⟨_,.iptr e.cells b (off+m.toNat*sz) (λj=>vs (m.toNat*sz+j)) (λj hj=>?_) (λj c hc=>hr _ j e c he hc),λw _=>?_⟩
    · rw[Nat.add_assoc];exact himm _ (by omega)
    have hm:m<(xs.length:Int):=by omega
    simp[execOp,hev,hfu,Instr.indexAt,asIntOf,underlying,hu,hs,h0,hm,Addr.add_off]
theorem pure_indexA{T E:TypeId}{x i:Operand}{N sz:Nat}{cs:List AV}{k:IntKind}{m:Int}(hu:P.underlying T=some (.array N E))(hs:∀w,(sizeOf E).run P w= .ok sz w)
    (hx:Ev env x (.iptr cs))(hi:Ev env i (.int k m))(h0:0≤m)(hm:m<N):APure P ⟨dst,.indexAddr T x i,ty,pos,af,gd⟩ env (.iptr (cs.drop (m.toNat*sz))):=by
  intro g n a ka;obtain⟨v,hev,hv⟩:=ev1 hx ka;obtain⟨u,hfu,hu'⟩:=ev1 hi ka;cases hu'
  cases hv with
  |iptr cs b off vs hii hr=>
    refine⟨_,.iptr _ b (off+m.toNat*sz) (λj=>vs (m.toNat*sz+j)) (λj hj=>?_) (λj c hc=>?_),λw _=>?_⟩
    · rw[Nat.add_assoc];exact hii _ (by simp at hj;omega)
    · rw[List.getElem?_drop]at hc;exact hr _ _ hc
    simp[execOp,hev,hfu,Instr.indexAt,Instr.sureAddr,asIntOf,underlying,hu,hs,h0,hm,Addr.add_off]
theorem pure_indexB{T E:TypeId}{x i:Operand}{N sz:Nat}{b o:Nat}{k:IntKind}{m:Int}(hu:P.underlying T=some (.array N E))(hs:∀w,(sizeOf E).run P w= .ok sz w)
    (hx:Ev env x (.ptr (some ⟨b,o,none⟩)))(hi:Ev env i (.int k m))(h0:0≤m)(hm:m<N):APure P ⟨dst,.indexAddr T x i,ty,pos,af,gd⟩ env (.ptr (some ⟨b,o+m.toNat*sz,none⟩)):=by
  intro g n a ka;obtain⟨v,hev,hv⟩:=ev1 hx ka;obtain⟨u,hfu,hu'⟩:=ev1 hi ka;cases hu';cases hv
  exact⟨_,.ptr _,λw _=>by simp[execOp,hev,hfu,Instr.indexAt,Instr.sureAddr,asIntOf,underlying,hu,hs,h0,hm,Addr.add_off]⟩
theorem pure_indexM{T E:TypeId}{x i:Operand}{sz l c b o:Nat}{k:IntKind}{m:Int}(hu:P.underlying T=some (.slice E))(hs:∀w,(sizeOf E).run P w= .ok sz w)
    (hx:Ev env x (.mslice (some ⟨b,o,none⟩) l c))(hi:Ev env i (.int k m))(h0:0≤m)(hm:m<l):APure P ⟨dst,.indexAddr T x i,ty,pos,af,gd⟩ env (.ptr (some ⟨b,o+m.toNat*sz,none⟩)):=by
  intro g n a ka;obtain⟨v,hev,hv⟩:=ev1 hx ka;obtain⟨u,hfu,hu'⟩:=ev1 hi ka;cases hu';cases hv
  exact⟨_,.ptr _,λw _=>by simp[execOp,hev,hfu,Instr.indexAt,asIntOf,underlying,hu,hs,h0,hm,Addr.add_off]⟩
theorem pure_nilCheckI{x:Operand}{cs:List AV}(hx:Ev env x (.iptr cs)):APure P ⟨dst,.nilCheck x,ty,pos,af,gd⟩ env (.iptr cs):=by
  intro g n a ka;obtain⟨v,hev,hv⟩:=ev1 hx ka;have h:=hv;cases hv
  exact⟨_,h,λw _=>by simp[execOp,hev]⟩
theorem pure_nilCheck{x:Operand}{p:Addr}(hx:Ev env x (.ptr (some p))):APure P ⟨dst,.nilCheck x,ty,pos,af,gd⟩ env (.ptr (some p)):=by
  intro g n a ka;obtain⟨v,hev,hv⟩:=ev1 hx ka;cases hv
  exact⟨_,.ptr _,λw _=>by simp[execOp,hev]⟩
theorem pure_extract{x:Operand}{vs:List AV}{i:Nat}{y:AV}(hx:Ev env x (.tuple vs))(hy:vs[i]?=some y):APure P ⟨dst,.extract x i,ty,pos,af,gd⟩ env y:=by
  intro g n a ka;obtain⟨v,hev,hv⟩:=ev1 hx ka;cases hv with
  |tuple cs us hn hr=>
    have hlt:i<us.size:=by rw[←hn];exact(List.getElem?_eq_some_iff.1 hy).1
    exact⟨us[i],hr i y _ hy (Array.getElem?_eq_getElem hlt),λw _=>by simp[execOp,hev,Instr.extract,hlt]⟩
theorem pure_func1{f:FuncId}{x:Operand}{y:AV}(hx:Ev env x y):APure P ⟨dst,.makeFunc (.func f) #[] #[x],ty,pos,af,gd⟩ env (.func f [y]):=by
  intro g n a ka;exact⟨_,.func f [y] #[a.eval x] rfl (λi c v hc hv=>by
    cases i with
    |zero=>simp at hc hv;subst hc;subst hv;exact hx.rel ka
    |succ i=>simp at hc),λw _=>by simp[execOp,Instr.makeFunc]⟩
theorem pure_func2{f:FuncId}{x x':Operand}{y y':AV}(hx:Ev env x y)(hx':Ev env x' y'):APure P ⟨dst,.makeFunc (.func f) #[] #[x,x'],ty,pos,af,gd⟩ env (.func f [y,y']):=by
  intro g n a ka;exact⟨_,.func f [y,y'] #[a.eval x,a.eval x'] rfl (λi c v hc hv=>by
    match i with
    |0=>simp at hc hv;subst hc;subst hv;exact hx.rel ka
    |1=>simp at hc hv;subst hc;subst hv;exact hx'.rel ka
    |i+2=>simp at hc),λw _=>by simp[execOp,Instr.makeFunc]⟩
theorem pure_func3{f:FuncId}{x x' x2:Operand}{y y' y2:AV}(hx:Ev env x y)(hx':Ev env x' y')(hx2:Ev env x2 y2):APure P ⟨dst,.makeFunc (.func f) #[] #[x,x',x2],ty,pos,af,gd⟩ env (.func f [y,y',y2]):=by
  intro g n a ka;exact⟨_,.func f [y,y',y2] #[a.eval x,a.eval x',a.eval x2] rfl (λi c v hc hv=>by
    match i with
    |0=>simp at hc hv;subst hc;subst hv;exact hx.rel ka
    |1=>simp at hc hv;subst hc;subst hv;exact hx'.rel ka
    |2=>simp at hc hv;subst hc;subst hv;exact hx2.rel ka
    |i+3=>simp at hc),λw _=>by simp[execOp,Instr.makeFunc]⟩
/-! ### calls -/
inductive Evs (env:Env):List Operand→List AV→Prop
  |nil:Evs env [] []
  |cons {o x os xs} (h:Ev env o x) (k:Evs env os xs):Evs env (o::os) (x::xs)
theorem Evs.rel{env:Env}{os:List Operand}{xs:List AV}(h:Evs env os xs){g:G}{n:Fr}{a:Act}(k:RelAct g n env a):RelVs g xs (os.map a.eval):=by
  induction h with
  |nil=>exact⟨rfl,λi x v hx _=>by simp at hx⟩
  |cons h _ ih=>
    refine⟨by simp[ih.1],λi x v hx hv=>?_⟩;cases i with
    |zero=>simp at hx hv;subst hx;subst hv;exact h.rel k
    |succ i=>simp at hx hv;exact ih.2 i x v hx (by simpa using hv)
theorem RelVs.append{g:G}{xs ys:List AV}{vs us:List Value}(h:RelVs g xs vs)(k:RelVs g ys us):RelVs g (xs++ys) (vs++us):=by
  refine⟨by simp[h.1,k.1],λi x v hx hv=>?_⟩;rw[List.getElem?_append]at hx hv;rw[h.1]at hx;split at hx
  · rename_i hlt;rw[if_pos hlt]at hv;exact h.2 i x v hx hv
  rename_i hlt;rw[if_neg hlt]at hv;exact k.2 _ x v hx hv
theorem step_call{f:FuncId}{fo:Operand}{cap:List AV}{os:Array Operand}{xs:List AV}{ts:Array TypeId}{R:AV→Heap→Prop}(hent:∀args w,(callFunc f args).run P w= .ok (.enter f args) w)
    (hf:Ev env fo (.func f cap))(ha:Evs env os.toList xs)(h:ACall P f (xs++cap) H R):AStep P ⟨dst,.call {callee:=.value fo,args:=os,argTypes:=ts},ty,pos,af,gd⟩ env H R:=by
  intro g n a w ka s;obtain⟨v,hev,hv⟩:=ev1 hf ka;cases hv with
  |func f cap us hn hr=>
    have hargs:=(ha.rel ka).append (show RelVs g cap us.toList from⟨by simpa using hn,λi c v hc hv=>hr i c v hc (by simpa using hv)⟩);have:(execOp a.eval ⟨dst,.call {callee:=.value fo,args:=os,argTypes:=ts},ty,pos,af,gd⟩).run P w= .ok (.enter f (os.map a.eval++us)) w:=by
      simp[execOp,resolve,hev,Deferred.ofValue,invoke,hent]
    rw[this];have hc:=h g _ w hargs s;have e:(List.map a.eval os.toList++us.toList).toArray=os.map a.eval++us:=by
      apply Array.ext';simp
    rw[e]at hc;exact hc
theorem step_call0{f:FuncId}{os:Array Operand}{xs:List AV}{ts:Array TypeId}{R:AV→Heap→Prop}(hent:∀args w,(callFunc f args).run P w= .ok (.enter f args) w)
    (ha:Evs env os.toList xs)(h:ACall P f xs H R):AStep P ⟨dst,.call {callee:=.value (.func f),args:=os,argTypes:=ts},ty,pos,af,gd⟩ env H R:=
  step_call hent (.func f) ha (by simpa using h)
end
end
section
section
variable{P:Program}{env:Env}{H:Heap}{dst:Option Tmp}{ty:TypeId}{pos:String}{af:Array Edge}{gd:Option (Nat×Bool)}
/-! ### put together -/
def fillA(place:Nat→Option (Nat×Nat)):List AV→List (Nat×AV)→Option (List AV)
  |cs,[]=>some cs
  |cs,(i,x)::rest=>
    match place i with
    |none=>none
    |some (off,size)=>if x.cells.length=size∧off+x.cells.length≤cs.length then fillA place (putRow cs off x.cells) rest else none
theorem foldl_set(off:Nat):∀(us:List Value)(k:Nat)(cs:Array Value),off+k+us.length≤cs.size→
    ((us.zipIdx k).foldl (λcs (c,j)=>cs.setIfInBounds (off+j) c) cs)=(cs.toList.take (off+k)++us++cs.toList.drop (off+k+us.length)).toArray
  | [],k,cs,_=>by simp
  |u::us,k,cs,h=>by
    simp only[List.length_cons]at h;rw[List.zipIdx_cons,List.foldl_cons,foldl_set off us (k+1) _ (by simp;omega)];apply congrArg;apply List.ext_getElem?;intro i;have e1:=row_put_get ((cs.setIfInBounds (off+k) u).toList) (off+(k+1)) us (by simp;omega) i;have e2:=row_put_get cs.toList (off+k) (u::us) (by simp;omega) i;rw[e1];rw[e2];simp only[List.length_cons,Array.getElem?_toList,Array.getElem?_setIfInBounds];by_cases h1:i<off+k
    · rw[if_neg (by omega),if_neg (by omega),if_neg (by omega)]
    by_cases h2:i=off+k
    · subst h2;rw[if_neg (by omega),if_pos (by omega),if_pos (by omega)];simp
    by_cases h3:i<off+(k+1)+us.length
    · rw[if_pos (by omega),if_pos (by omega),show i-(off+k)=(i-(off+(k+1)))+1 by omega,List.getElem?_cons_succ]
    rw[if_neg (by omega),if_neg (by omega),if_neg (by omega)]
theorem RelCells.fill{g:G}{place:Nat→Option (Nat×Nat)}:∀{ps:List (Nat×AV)}{qs:List (Nat×Value)}{cs ds:List AV}{vs:Array Value},RelCells g cs vs→
    ps.length=qs.length→(∀(i:Nat) p q,ps[i]?=some p→qs[i]?=some q→p.1=q.1∧RelCells g p.2.cells q.2.cells)→fillA place cs ps=some ds→∃us,Instr.fill place vs qs=some us∧RelCells g ds us
  | [],[],cs,ds,vs,h,_,_,hf=>by simp only[fillA,Option.some.injEq]at hf;subst hf;exact⟨vs,rfl,h⟩
  |(i,x)::ps,(j,v)::qs,cs,ds,vs,h,hl,hr,hf=>by
    obtain⟨hij,hcv⟩:=hr 0 (i,x) (j,v) rfl rfl;simp only at hij hcv;subst hij;simp only[fillA]at hf;simp only[Instr.fill];cases hp:place i with
    |none=>rw[hp]at hf;cases hf
    |some os=>
      obtain⟨off,size⟩:=os;rw[hp]at hf;simp only at hf;split at hf
      · rename_i hc
        have e1:=hcv.1;have e2:=h.1;have hfold:=foldl_set off v.cells.toList 0 vs (by simp;omega);simp only[Nat.add_zero]at hfold;have e3:v.cells.zipIdx.foldl (λcs (c,j)=>cs.setIfInBounds (off+j) c) vs=(vs.toList.take off++v.cells.toList++vs.toList.drop (off+v.cells.toList.length)).toArray:=by
          rw[←hfold,←Array.foldl_toList,Array.toList_zipIdx]
        have hnot:¬(v.cells.size≠size∨off+v.cells.size>vs.size):=by omega
        obtain⟨us,h1,h2⟩:=RelCells.fill (ps:=ps) (qs:=qs) (h.putRow hcv (by omega)) (by simpa using hl) (λk p q hpk hqk=>hr (k+1) p q hpk hqk) hf;refine⟨us,?_,h2⟩;simp only[e3];rw[if_neg (by simpa using hnot)];exact h1
      cases hf
inductive Parts (env:Env):List (Nat×Operand)→List (Nat×AV)→Prop
  |nil:Parts env [] []
  |cons {i o x ps qs} (h:Ev env o x) (h1:x.one=true∨∃cs,x= .agg cs) (k:Parts env ps qs):Parts env ((i,o)::ps) ((i,x)::qs)
theorem Parts.rel{ps:List (Nat×Operand)}{qs:List (Nat×AV)}(h:Parts env ps qs){g:G}{n:Fr}{a:Act}(k:RelAct g n env a):
    qs.length=(ps.map λp=>(p.1,a.eval p.2)).length∧∀(i:Nat) p q,qs[i]?=some p→(ps.map λp=>(p.1,a.eval p.2))[i]?=some q→p.1=q.1∧RelCells g p.2.cells q.2.cells:=by
  induction h with
  |nil=>exact⟨rfl,λi p q hp _=>by simp at hp⟩
  |cons h h1 _ ih=>
    refine⟨by simp[ih.1],λi p q hp hq=>?_⟩;cases i with
    |zero=>simp at hp hq;subst hp;subst hq;exact⟨rfl,(h.rel k).rcells h1⟩
    |succ i=>simp only[List.getElem?_cons_succ,List.map_cons]at hp hq;exact ih.2 i p q hp hq
theorem mapM_places{fs:Array Field}{places:List (Nat×Nat)}(hp:fs.toList.map (·.offset)=places.map (·.1))(hs:∀(i:Nat) f p,fs[i]?=some f→places[i]?=some p→∀w,(sizeOf f.type).run P w= .ok p.2 w)(w:World):
    (fs.mapM λf=>Prod.mk f.offset<$>sizeOf f.type:Sem (Array (Nat×Nat))).run P w= .ok places.toArray w:=by
  rw[Array.mapM_eq_mapM_toList,Sem.run_map];have key:∀(l:List Field)(ps:List (Nat×Nat)),l.map (·.offset)=ps.map (·.1)→(∀(i:Nat) f p,l[i]?=some f→ps[i]?=some p→∀w,(sizeOf f.type).run P w= .ok p.2 w)→
      (l.mapM λf=>Prod.mk f.offset<$>sizeOf f.type:Sem (List (Nat×Nat))).run P w= .ok ps w:=by
    intro l;induction l with
    |nil=>intro ps h _;cases ps with
      |nil=>simp
      |cons=>simp at h
    |cons f l ih=>
      intro ps h hs;cases ps with
      |nil=>simp at h
      |cons p ps=>
        simp only[List.map_cons,List.cons.injEq]at h;rw[List.mapM_cons,Sem.run_bind,Sem.run_map,hs 0 f p rfl rfl];simp only[Result.andThen_ok];rw[Sem.run_bind,ih ps h.2 (λi f' p' hf hp=>hs (i+1) f' p' hf hp)];simp[h.1]
  rw[key fs.toList places hp (λi f p hf hp=>hs i f p (by simpa using hf) hp)];rfl
theorem pure_build{T:TypeId}{fs:Array Field}{ops:List (Nat×Operand)}{qs:List (Nat×AV)}{z:Value}{zs cs:List AV}(places:List (Nat×Nat))(hu:P.underlying T=some (.struct fs))(hz:∀w,(zeroValue T).run P w= .ok z w)
    (hzr:∀g,RelCells g zs z.cells)(hp:fs.toList.map (·.offset)=places.map (·.1))(hs:∀(i:Nat) f p,fs[i]?=some f→places[i]?=some p→∀w,(sizeOf f.type).run P w= .ok p.2 w)
    (hq:Parts env ops qs)(hf:fillA (places[·]?) zs qs=some cs):APure P ⟨dst,.build T ops.toArray,ty,pos,af,gd⟩ env (.agg cs):=by
  intro g n a ka;obtain⟨h1,h2⟩:=hq.rel ka;obtain⟨us,h3,h4⟩:=(hzr g).fill h1 h2 hf;refine⟨.agg us,.agg cs us h4.1 h4.2,λw _=>?_⟩;simp[execOp,Instr.build,hz,underlying,hu,mapM_places hp hs,h3]
theorem flat_get{sz:Nat}:∀{xs:List AV},(∀x,x∈xs→x.cells.length=sz)→∀{i j:Nat}{x c:AV},xs[i]?=some x→x.cells[j]?=some c→(xs.flatMap AV.cells)[i*sz+j]?=some c
  | [],_,i,j,x,c,hx,_=>by simp at hx
  |y::ys,h,i,j,x,c,hx,hc=>by
    have hy:=h y (by simp);rw[List.flatMap_cons];cases i with
    |zero=>
      simp at hx;subst hx;rw[Nat.zero_mul,Nat.zero_add,List.getElem?_append_left (List.getElem?_eq_some_iff.1 hc).1];exact hc
    |succ i=>
      simp only[List.getElem?_cons_succ]at hx;rw[List.getElem?_append_right (by rw[hy,Nat.add_mul];omega),hy,show(i+1)*sz+j-sz=i*sz+j by rw[Nat.add_mul];omega];exact flat_get (λz hz=>h z (by simp[hz])) hx hc
theorem flat_length{sz:Nat}:∀{xs:List AV},(∀x,x∈xs→x.cells.length=sz)→(xs.flatMap AV.cells).length=xs.length*sz
  | [],_=>by simp
  |y::ys,h=>by
    rw[List.flatMap_cons,List.length_append,h y (by simp),flat_length (λz hz=>h z (by simp[hz])),List.length_cons,Nat.add_mul];omega
theorem RelV.of_row{g:G}{sz:Nat}{xs:List AV}{tl:Tail}{b off cap:Nat}{vs:Nat→Value}{us:Array Value}(hrow:∀x,x∈xs→x.row sz)(hr:RelCells g (xs.flatMap AV.cells) us)
    (hv:∀i u,us[i]?=some u→vs i=u)(hi:∀i,i<xs.length*sz→g.imm b (off+i)=some (vs i))(hlen:xs.length≤cap)(hcap:cap≤maxLen)(htl:TailOK g tl b (off+xs.length*sz) ((cap-xs.length)*sz)):
    RelV g (.slice sz xs tl) (.slice (some ⟨b,off,none⟩) xs.length cap):=by
  refine .slice sz xs tl b off cap vs hrow hi (λi j x c hx hc=>?_) hlen hcap htl;obtain⟨u,hu,hru⟩:=hr.at (flat_get (λz hz=>(hrow z hz).1) hx hc);rw[hv _ u hu];exact hru
theorem step_buildSlice{T E:TypeId}{len sz:Nat}{ops:List (Nat×Operand)}{qs:List (Nat×AV)}{z:Value}{zs xs:List AV}(hu:P.underlying T=some (.slice E))(hs:∀w,(sizeOf E).run P w= .ok sz w)
    (hz:∀w,(zeroValue E).run P w= .ok z w)(hzr:∀g,RelCells g zs ((Array.range (len*sz)).map (z.cells[·%z.cells.size]!)))(hbig:Nat.ble (len*sz) 16777216=true)(hbig':Nat.ble len 16777216=true)(hq:Parts env ops qs)(hrow:∀x,x∈xs→x.row sz)
    (hlen:xs.length=len)(hf:fillA (λi=>some (i*sz,sz)) zs qs=some (xs.flatMap AV.cells)):
    AStep P ⟨dst,.buildSlice T len ops.toArray,ty,pos,af,gd⟩ env H (λy H'=>y= .slice sz xs .full∧H'=H):=by
  intro g n a w ka s;obtain⟨h1,h2⟩:=hq.rel ka;obtain⟨us,h3,h4⟩:=(hzr g).fill h1 h2 hf;have hus:us.size=xs.length*sz:=by rw[←h4.1];exact flat_length (λx hx=>(hrow x hx).1)
  have hbig:=Nat.le_of_ble_eq_true hbig;have hbig':=Nat.le_of_ble_eq_true hbig';have hcap:xs.length≤maxLen:=by unfold maxLen;omega
  have hrun:(execOp a.eval ⟨dst,.buildSlice T len ops.toArray,ty,pos,af,gd⟩).run P w= .ok (.value (.slice (some ⟨w.heap.size,0,none⟩) len len)) (w.alloc (.cells us E)):=by
    have e1:¬(2^24<len*sz):=by simpa using hbig
    have h3':Instr.fill (λi=>some (i*sz,sz)) ((Array.range (len*sz)).map (z.cells[·%z.cells.size]!)) (ops.map λp=>(p.1,a.eval p.2))=some us:=h3;simp only[execOp,Instr.buildSlice];simp[underlying,hu,hs];rw[if_neg (by simpa using e1)];by_cases e:len*sz=0
    · rw[if_pos e];have e2:(Array.map (λ_=>(default:Value)) (Array.range (len*sz)))=(Array.range (len*sz)).map (z.cells[·%z.cells.size]!):=by rw[e];simp
      rw[e2,h3'];simp[newRow]
    rw[if_neg e,hz];simp[h3',newRow]
  rw[hrun];have s':=s.new_imm us E (0,0) us.size;have hle:g.le (g.addImm w.heap.size λo=>if o<us.size then us[o]? else none):=G.le_addImm (λo u hu=>by rw[s.imm_new]at hu;cases hu);refine⟨_,.slice sz xs .full,H,hle,?_,s',rfl,rfl⟩;subst hlen;refine RelV.of_row (us:=us) (vs:=λi=>us.getD i undef) hrow (h4.mono hle) (λi u hi=>by simp[hi]) (λi hi=>?_) (Nat.le_refl _) hcap (by show(xs.length-xs.length)*sz=0;simp);rw[G.imm_addImm];simp[hus,hi]
end
end
section
section
variable{P:Program}{env:Env}{H:Heap}{dst:Option Tmp}{ty:TypeId}{pos:String}{af:Array Edge}{gd:Option (Nat×Bool)}
inductive OptEv (env:Env):Option Operand→Option Nat→Prop
  |no:OptEv env none none
  |yes (o k m) (h:Ev env o (.int k m)) (h0:0≤m):OptEv env (some o) (some m.toNat)
def OptIs(r:Option Nat)(o:Option Value):Prop:=match r with|none=>o=none|some m=>∃k,o=some (.int k (m:Int))
theorem OptEv.spec{o:Option Operand}{r:Option Nat}(h:OptEv env o r){g:G}{n:Fr}{a:Act}(ka:RelAct g n env a):OptIs r (o.map a.eval):=by
  cases h with
  |no=>rfl
  |yes o k m h h0=>
    obtain⟨v,he,hv⟩:=ev1 h ka;cases hv
    exact⟨k,by simp[he];omega⟩
theorem run_bounds{len cap:Nat}{lo hi:Option Value}{l h:Option Nat}(hlo:OptIs l lo)(hhi:OptIs h hi)
    (h1:l.getD 0≤h.getD len)(h2:h.getD len≤cap)(w:World):(Instr.sliceBounds true len cap lo hi none).run P w= .ok (l.getD 0,h.getD len,cap) w:=by
  cases h with
  |none=>
    simp only[OptIs]at hhi;subst hhi;cases l with
    |none=>simp only[OptIs]at hlo;subst hlo;simp[Instr.sliceBounds]
    |some l=>
      obtain⟨k,rfl⟩:=hlo;simp only[Option.getD_some,Option.getD_none]at h1;simp[Instr.sliceBounds,Instr.sliceBound,asIntOf,h1]
  |some h=>
    obtain⟨k,rfl⟩:=hhi;simp only[Option.getD_some]at h2;cases l with
    |none=>simp only[OptIs]at hlo;subst hlo;simp[Instr.sliceBounds,Instr.sliceBound,asIntOf,h2]
    |some l=>
      obtain⟨k',rfl⟩:=hlo;simp only[Option.getD_some]at h1;simp[Instr.sliceBounds,Instr.sliceBound,asIntOf,h1,h2]
def pieceTail:Option Nat→Tail→Tail
  |none,tl=>tl
  |some _,_=>.shared
theorem pure_slice{T E:TypeId}{x:Operand}{lo hi:Option Operand}{l h:Option Nat}{sz:Nat}{xs:List AV}{tl:Tail}(hu:P.underlying T=some (.slice E))(hs:∀w,(sizeOf E).run P w= .ok sz w)
    (hx:Ev env x (.slice sz xs tl))(hlo:OptEv env lo l)(hhi:OptEv env hi h)(h1:l.getD 0≤h.getD xs.length)(h2:h.getD xs.length≤xs.length):
    APure P ⟨dst,.slice T x lo hi none,ty,pos,af,gd⟩ env (.slice sz ((xs.take (h.getD xs.length)).drop (l.getD 0)) (pieceTail h tl)):=by
  intro g n a ka;obtain⟨v,he,hv⟩:=ev1 hx ka;have slo:=hlo.spec ka;have shi:=hhi.spec ka;cases hv with
  |nilSlice=>
    simp only[List.length_nil]at h1 h2;have e1:h.getD 0=0:=by omega
    have e2:l.getD 0=0:=by omega
    have hb:=run_bounds (P:=P) (len:=0) (cap:=0) slo shi h1 h2;refine⟨.slice none 0 0,by simp only[List.take_nil,List.drop_nil];exact .nilSlice _ _,λw _=>?_⟩;simp[execOp,he,Instr.sliceAt,Instr.slice,underlying,hu,hs,hb w,e1,e2]
  |voidSlice _ a0=>
    simp only[List.length_nil]at h1 h2;have e1:h.getD 0=0:=by omega
    have e2:l.getD 0=0:=by omega
    have hb:=run_bounds (P:=P) (len:=0) (cap:=0) slo shi h1 h2;refine⟨.slice (some a0) 0 0,by simp only[List.take_nil,List.drop_nil];cases h<;>exact .voidSlice _ _,λw _=>?_⟩;simp[execOp,he,Instr.sliceAt,Instr.slice,underlying,hu,hs,hb w,e1,e2]
  |slice sz xs tl b off cap vs hsz himm hr hlen hcap htl=>
    have hb:=run_bounds (P:=P) (len:=xs.length) (cap:=cap) slo shi h1 (by omega);generalize hL:l.getD 0=L at *;generalize hH:h.getD xs.length=B at *;have hlen':((xs.take B).drop L).length=B-L:=by simp;omega
    have hmul:∀i,i<(B-L)*sz→L*sz+i<xs.length*sz:=λi hi=>by
      have h3:L*sz+(B-L)*sz=B*sz:=by rw[←Nat.add_mul];congr 1;omega
      have h4:=Nat.mul_le_mul_right sz h2;omega
    have hrow:∀x,x∈(xs.take B).drop L→x.row sz:=λx hx=>hsz x (List.mem_of_mem_take (List.mem_of_mem_drop hx));have hrel:∀(i j:Nat) x c,((xs.take B).drop L)[i]?=some x→x.cells[j]?=some c→RelV g c (vs (L*sz+(i*sz+j))):=λi j x c hx hc=>by
      rw[List.getElem?_drop,List.getElem?_take]at hx;split at hx
      · have:=hr (L+i) j x c hx hc
        rwa[Nat.add_mul,Nat.add_assoc]at this
      cases hx
    by_cases hm:cap=L
    · have hBL:B-L=0:=by omega
      have hnil:(xs.take B).drop L=[]:=List.eq_nil_of_length_eq_zero (by omega);refine⟨.slice (some ⟨b,off,none⟩) (B-L) (cap-L),?_,λw _=>by have hbw:=hb w;rw[hm]at hbw;simp[execOp,he,Instr.sliceAt,Instr.slice,underlying,hu,hs,hbw,hm]⟩;rw[hnil,hBL];have:=RelV.slice (g:=g) sz [] (pieceTail h tl) b off (cap-L) vs (λx hx=>by simp at hx) (λi hi=>by simp at hi) (λi j x c hx _=>by simp at hx) (Nat.zero_le _) (by omega) (by
        have e0:(cap-L-([]:List AV).length)*sz=0:=by rw[show cap-L-([]:List AV).length=0 by simp;omega,Nat.zero_mul]
        rw[e0];cases h with
        |none=>cases tl with
          |shared=>trivial
          |full=>rfl
          |own t=>exact⟨htl.1,.inl rfl⟩
        |some _=>trivial)
      simpa using this
    refine⟨.slice (some ⟨b,off+L*sz,none⟩) (B-L) (cap-L),?_,λw _=>by simp[execOp,he,Instr.sliceAt,Instr.slice,underlying,hu,hs,hb w,hm,Addr.add_off]⟩;have:=RelV.slice (g:=g) sz ((xs.take B).drop L) (pieceTail h tl) b (off+L*sz) (cap-L) (λi=>vs (L*sz+i)) hrow (λi hi=>by
        rw[hlen']at hi;rw[Nat.add_assoc];exact himm _ (hmul i hi)) hrel (by omega) (by omega) (by
      cases h with
      |none=>
        simp only[Option.getD_none]at hH;rw[hlen',←hH,show off+L*sz+(xs.length-L)*sz=off+xs.length*sz by rw[Nat.add_assoc,←Nat.add_mul];congr 2;omega,show cap-L-(xs.length-L)=cap-xs.length by omega];exact htl
      |some _=>trivial)
    rwa[hlen']at this
/-! ### append -/
theorem first_cells{g:G}{sz:Nat}{ys:List AV}{tl:Tail}{v:Value}(h:RelV g (.slice sz ys tl) v)(hrow:∀y,y∈ys→y.row sz):∃us:Array Value,RelCells g (ys.flatMap AV.cells) us∧Builtin.lenOf v=(pure ys.length:Sem Nat)∧
    ∀w,(∀b k u,g.imm b k=some u→w.cell? ⟨b,k,none⟩=some u)→(Builtin.firstCells sz ys.length v).run P w= .ok us w:=by
  cases h with
  |nilSlice=>exact⟨#[],RelCells.nil g,rfl,λw _=>rfl⟩
  |voidSlice=>exact⟨#[],RelCells.nil g,rfl,λw _=>by show(loadCells _ (([]:List AV).length*sz)).run P w=_;rw[List.length_nil,Nat.zero_mul];rfl⟩
  |slice sz ys tl b off cap vs hsz himm hr hlen hcap htl=>
    have hl:=flat_length (λx hx=>(hsz x hx).1);obtain⟨h1,h2⟩:=imm_load (P:=P) (g:=g) (b:=b) (off:=off) (k:=ys.length*sz) (cs:=ys.flatMap AV.cells) (vs:=vs) (λi hi=>himm i (by omega)) (λi c hc=>by
      have hi:i<ys.length*sz:=by rw[←hl];exact(List.getElem?_eq_some_iff.1 hc).1
      have hsz0:0<sz:=by
        rcases Nat.eq_zero_or_pos sz with e|e
        · subst e;simp at hi
        exact e
      have hq:i/sz<ys.length:=Nat.div_lt_of_lt_mul (by rw[Nat.mul_comm];exact hi);have hx:ys[i/sz]?=some ys[i/sz]:=List.getElem?_eq_getElem hq;have hxr:=(hsz _ (List.getElem_mem hq)).1;have hc2:ys[i/sz].cells[i%sz]?=some (ys[i/sz].cells[i%sz]'(by rw[hxr];exact Nat.mod_lt _ hsz0)):=List.getElem?_eq_getElem _;have:=flat_get (λx hx=>(hsz x hx).1) hx hc2;rw[Nat.mul_comm,Nat.div_add_mod]at this;rw[this]at hc;cases hc
      have:=hr _ _ _ _ hx hc2
      rwa[Nat.mul_comm,Nat.div_add_mod]at this) (by omega)
    rw[←hl,List.take_length]at h1;rw[←hl]at h2;refine⟨_,h1,rfl,λw hw=>?_⟩;show(loadCells ⟨b,off,none⟩ (ys.length*sz)).run P w=_;rw[←hl];exact h2 w hw
theorem RelCells.oneCells{g:G}{cs:List AV}{us:Array Value}(h:RelCells g cs us)(h1:cs.all AV.one=true):∀v∈us.toList,v.oneCell'=true:=λv hv=>by
  obtain⟨i,hi,hiv⟩:=List.getElem_of_mem hv;have hi':i<cs.length:=by rw[h.1];simpa using hi
  have h2:us[i]?=some v:=by rw[←Array.getElem?_toList,List.getElem?_eq_getElem hi,hiv]
  exact(h.2 i _ v (List.getElem?_eq_getElem hi') h2).oneCell (List.all_eq_true.1 h1 _ (List.getElem_mem hi'))
theorem flat_one{sz:Nat}{xs:List AV}(h:∀x,x∈xs→x.row sz):(xs.flatMap AV.cells).all AV.one=true:=by
  rw[List.all_eq_true];intro c hc;obtain⟨x,hx,hcx⟩:=List.mem_flatMap.1 hc;exact List.all_eq_true.1 (h x hx).2 c hcx
inductive Room (H:Heap):Tail→Heap→Prop
  |full:Room H .full H
  |own (t) (h:H.toks t=true):Room H (.own t) (H.kill t)
theorem Room.le{tl:Tail}{H':Heap}(h:Room H tl H'):H'.le H:=by
  cases h with
  |full=>exact Heap.le.refl H
  |own t _=>exact Heap.kill_le H t
theorem step_append{T T' E E':TypeId}{x y:Operand}{sz:Nat}{xs ys:List AV}{tl tl':Tail}{ti:TypeInfo}{z:Value}{H0:Heap}(hu:P.underlying T=some (.slice E))(hu':P.underlying T'=some (.slice E'))
    (hs:∀w,(sizeOf E).run P w= .ok sz w)(hti:∀w,(typeInfo E).run P w= .ok ti w)(hz:∀w,(zeroValue E).run P w= .ok z w)(hzl:z.cells.size=sz)(hb0:ti.bytes≠0)
    (hx:Ev env x (.slice sz xs tl))(hy:Ev env y (.slice sz ys tl'))(hroom:Room H tl H0)(hfit:(xs.length+ys.length)*ti.bytes≤140737488355328)(hrx:∀x,x∈xs→x.row sz)(hry:∀y,y∈ys→y.row sz):
    AStep P ⟨dst,.call {callee:=.builtin .append,args:= #[x,y],argTypes:= #[T,T']},ty,pos,af,gd⟩ env H (λr H'=>∃t,H.toks t=false∧r= .slice sz (xs++ys) (.own t)∧H'=H0.live t):=by
  intro g n a w ka s;obtain⟨vx,hex,hvx⟩:=ev1 hx ka;obtain⟨vy,hey,hvy⟩:=ev1 hy ka;obtain⟨us,hus,hlenY,hfirst⟩:=first_cells (P:=P) hvy hry;obtain⟨os,hos,hlenX,hfirstX⟩:=first_cells (P:=P) hvx hrx;have hsy:=flat_length (λy hy=>(hry y hy).1);have hsx:=flat_length (λx hx=>(hrx x hx).1);have husz:us.size=ys.length*sz:=by rw[←hus.1,hsy]
  have hosz:os.size=xs.length*sz:=by rw[←hos.1,hsx]
  have hfresh:H.toks g.ntok=false:=by
    cases e:H.toks g.ntok with
    |false=>rfl
    |true=>have:=s.tokLt _ e;omega
  have hall:∀x,x∈xs++ys→x.row sz:=λx hx=>by
    rcases List.mem_append.1 hx with h|h
    · exact hrx x h
    exact hry x h
  have hflat:(xs++ys).flatMap AV.cells=xs.flatMap AV.cells++ys.flatMap AV.cells:=List.flatMap_append;have hzeros:(do pure ((←underlying T') matches .int _):Sem Bool).run P w= .ok false w:=by simp[underlying,hu']
  
  have grows:∀(c:Nat),(∃p,vx= .slice p xs.length c)→c<xs.length+ys.length→YieldsTo P (λv w'=>∃g' r H',g.le g'∧RelV g' r v∧Sat g' H' w'∧∃t,H.toks t=false∧r= .slice sz (xs++ys) (.own t)∧H'=H0.live t)
      ((execOp a.eval ⟨dst,.call {callee:=.builtin .append,args:= #[x,y],argTypes:= #[T,T']},ty,pos,af,gd⟩).run P w):=by
    rintro c ⟨p,hvx'⟩ hc;have hgrow:=growslice_fits (bytes:=ti.bytes) hc hfit
    let nc:=(Question.appendCap (xs.length+ys.length) c E).cut (w.tape w.drawn (.appendCap (xs.length+ys.length) c E))
    have hneed:xs.length+ys.length≤140737488355328:=Nat.le_trans (Nat.le_mul_of_pos_right _ (Nat.pos_of_ne_zero hb0)) hfit;have hnc:xs.length+ys.length≤nc∧nc≤maxLen:=by
      show xs.length+ys.length≤xs.length+ys.length+_%(2^63-(xs.length+ys.length))∧_;refine⟨Nat.le_add_right _ _,?_⟩;show xs.length+ys.length+w.tape w.drawn (.appendCap (xs.length+ys.length) c E)%(2^63-(xs.length+ys.length))≤maxLen;have:w.tape w.drawn (.appendCap (xs.length+ys.length) c E)%(2^63-(xs.length+ys.length))<2^63-(xs.length+ys.length):=Nat.mod_lt _ (by omega);unfold maxLen;omega
    let row:Array Value:=os++us++Builtin.zeroCells z.cells (nc-(xs.length+ys.length))
    have hrow:row.size=nc*sz:=by
      show(os++us++Builtin.zeroCells z.cells (nc-(xs.length+ys.length))).size=nc*sz;simp only[Array.size_append,Builtin.zeroCells,Array.size_map,Array.size_range,hosz,husz,hzl];rw[←Nat.add_mul,←Nat.add_mul];congr 1;omega
    have hrun:(execOp a.eval ⟨dst,.call {callee:=.builtin .append,args:= #[x,y],argTypes:= #[T,T']},ty,pos,af,gd⟩).run P w= .ok (.value (.slice (some ⟨w.heap.size,0,none⟩) (xs.length+ys.length) nc)) (w.drew.alloc (.cells row E)):=by
      have i1:∀w',w'.heap=w.heap→(Builtin.firstCells sz xs.length vx).run P w'= .ok os w':=λw' hw=>hfirstX w' λb k u hu=>by
        have:=s.imm b k u hu;unfold World.cell? at this ⊢;rw[hw];exact this
      have i2:∀w',w'.heap=w.heap→(Builtin.firstCells sz ys.length vy).run P w'= .ok us w':=λw' hw=>hfirst w' λb k u hu=>by
        have:=s.imm b k u hu;unfold World.cell? at this ⊢;rw[hw];exact this
      have hforced:(Question.appendCap (xs.length+ys.length) c E).forced=false:=rfl;have hnot1:¬(xs.length+ys.length≤c):=by omega
      have hnot2:¬(Builtin.nextslicecap (xs.length+ys.length) c*ti.bytes>2^48):=by simpa using hgrow
      subst hvx';have i1':=i1 w.drew rfl;have i2':=i2 w.drew rfl;simp only[execCall_builtin,builtin,Builtin.append_];simp[hex,hey,underlying,hu,hu',hs,hlenY,hnot1,hti,hb0,hforced,hz,newRow];rw[if_neg (by simpa using hnot2)];rw[i1'];simp only[Result.andThen_ok];rw[i2'];simp only[Result.andThen_ok];rw[←Array.append_assoc];rfl
    rw[hrun];have s1:Sat g H0 w.drew:=s.drew.weaken hroom.le;obtain⟨g',hle,_,htok,himm,s2⟩:=s1.new_row row E ((xs.length+ys.length)*sz) (by rw[hrow];exact Nat.mul_le_mul_right sz hnc.1);refine⟨g',_,_,hle,?_,s2,g.ntok,hfresh,rfl,rfl⟩;have hcells:RelCells g ((xs++ys).flatMap AV.cells) (os++us):=by rw[hflat];exact hos.append hus
    have hlt:g.ntok<g'.ntok:=by
      have:=s2.tokLt g.ntok (by simp[Heap.live]);exact this
    have key:=RelV.of_row (g:=g') (tl:=.own g.ntok) (b:=w.heap.size) (off:=0) (cap:=nc) (us:=os++us) (vs:=λi=>row.getD i undef) hall (hcells.mono hle) (λi u hi=>by
        have hil:i<os.size+us.size:=by have:=(Array.getElem?_eq_some_iff.1 hi).1;simpa using this
        show row.getD i undef=u;have:row[i]?=some u:=by
          show(os++us++_)[i]?=some u;rw[Array.getElem?_append_left (by simpa using hil)];exact hi
        simp[this]) (λi hi=>by
        rw[Nat.zero_add];have hi':i<row.size:=by
          rw[hrow];have:=Nat.mul_le_mul_right sz hnc.1;simp only[List.length_append]at hi;omega
        exact himm i _ (by simpa using hi) (by simp[hi'])) (by simpa using hnc.1) hnc.2 ⟨hlt,.inr (by
        rw[htok,hrow];simp only[List.length_append,Nat.zero_add,Option.some.injEq,Prod.mk.injEq];refine⟨rfl,trivial,?_⟩;rw[Nat.sub_mul])⟩
    simpa using key
  
  have same:∀(g':G)(w':World)(v:Value),g.le g'→Sat g' (H0.live g.ntok) w'→RelV g' (.slice sz (xs++ys) (.own g.ntok)) v→
      (execOp a.eval ⟨dst,.call {callee:=.builtin .append,args:= #[x,y],argTypes:= #[T,T']},ty,pos,af,gd⟩).run P w= .ok (.value v) w'→
      YieldsTo P (λv w'=>∃g' r H',g.le g'∧RelV g' r v∧Sat g' H' w'∧∃t,H.toks t=false∧r= .slice sz (xs++ys) (.own t)∧H'=H0.live t)
      ((execOp a.eval ⟨dst,.call {callee:=.builtin .append,args:= #[x,y],argTypes:= #[T,T']},ty,pos,af,gd⟩).run P w):=by
    intro g' w' v hle hs' hv hrun;rw[hrun];exact⟨g',_,_,hle,hv,hs',g.ntok,hfresh,rfl,rfl⟩
  have hempty:ys=[]∨0<ys.length:=by cases ys<;>simp
  cases hvx with
  |nilSlice=>
    rcases hempty with rfl|hpos
    · refine same (g.addTok none) w (.slice none 0 0) (G.le_addTok g none) (s.weaken hroom.le).retag (.nilSlice _ _) ?_;have i2:(Builtin.firstCells sz 0 vy).run P w= .ok us w:=hfirst w s.imm;simp only[execCall_builtin,builtin,Builtin.append_];simp[hex,hey,underlying,hu,hu',hs,hlenY,i2]
    exact grows 0 ⟨none,rfl⟩ (by simpa using hpos)
  |voidSlice=>cases hroom
  |slice sz xs tl b off cap vs hsz himm hr hlen hcap htl=>
    by_cases hc:cap<xs.length+ys.length
    · exact grows cap ⟨_,rfl⟩ hc
    have hc':xs.length+ys.length≤cap:=by omega
    have i2:=hfirst w s.imm;have hstore:∀w',(storeCells ⟨b,off+xs.length*sz,none⟩ us.toList).run P w= .ok () w'→
        (execOp a.eval ⟨dst,.call {callee:=.builtin .append,args:= #[x,y],argTypes:= #[T,T']},ty,pos,af,gd⟩).run P w= .ok (.value (.slice (some ⟨b,off,none⟩) (xs.length+ys.length) cap)) w':=λw' hw'=>by
      simp only[execCall_builtin,builtin,Builtin.append_];simp[hex,hey,underlying,hu,hu',hs,hlenY,hc',i2,Addr.add_off];rw[hw'];rfl
    have hrel:∀(g':G)(t:Nat),g.le g'→(∀o v,us[o]?=some v→g'.imm b (off+xs.length*sz+o)=some v)→TailOK g' (.own t) b (off+(xs++ys).length*sz) ((cap-(xs++ys).length)*sz)→
        RelV g' (.slice sz (xs++ys) (.own t)) (.slice (some ⟨b,off,none⟩) (xs.length+ys.length) cap):=λg' t hle hi ht=>by
      have key:=RelV.slice (g:=g') sz (xs++ys) (.own t) b off cap (λi=>if i<xs.length*sz then vs i else us.getD (i-xs.length*sz) undef) hall (λi hi'=>by
          by_cases h:i<xs.length*sz
          · simp only[h,if_true];exact hle.imm _ _ _ (himm i h)
          simp only[h,if_false];have hlt:i-xs.length*sz<us.size:=by
            rw[husz];simp only[List.length_append,Nat.add_mul]at hi';omega
          have:=hi (i-xs.length*sz) us[i-xs.length*sz] (Array.getElem?_eq_getElem hlt);rw[show off+i=off+xs.length*sz+(i-xs.length*sz) by omega,this];simp[hlt]) (λi j x c hx hc=>?_) (by simpa using hc') hcap ht
      · simpa using key
      rw[List.getElem?_append]at hx;split at hx
      · rename_i hlt
        have hj:j<sz:=by rw[←(hsz x (List.mem_of_getElem? hx)).1];exact(List.getElem?_eq_some_iff.1 hc).1
        have:i*sz+j<xs.length*sz:=by
          have:=Nat.mul_le_mul_right sz (show i+1≤xs.length from hlt);rw[Nat.add_mul]at this;omega
        rw[if_pos this];exact(hr i j x c hx hc).mono hle
      rename_i hlt
      have hge:xs.length*sz≤i*sz:=Nat.mul_le_mul_right sz (by omega);rw[if_neg (by omega)];obtain⟨u,hu1,hu2⟩:=hus.at (flat_get (λz hz=>(hry z hz).1) hx hc);have e:i*sz+j-xs.length*sz=(i-xs.length)*sz+j:=by rw[Nat.sub_mul];omega
      rw[e];have:us.getD ((i-xs.length)*sz+j) undef=u:=by simp[hu1]
      rw[this];exact hu2.mono hle
    have hnoStore:us.size=0→(storeCells ⟨b,off+xs.length*sz,none⟩ us.toList).run P w= .ok () w:=λh0=>by
      have:us.toList=[]:=by simpa using h0
      rw[this];rfl
    have hzero:us.size=0→(g.addTok none).le (g.addTok none)→YieldsTo P (λv w'=>∃g' r H',g.le g'∧RelV g' r v∧Sat g' H' w'∧∃t,H.toks t=false∧r= .slice sz (xs++ys) (.own t)∧H'=H0.live t)
        ((execOp a.eval ⟨dst,.call {callee:=.builtin .append,args:= #[x,y],argTypes:= #[T,T']},ty,pos,af,gd⟩).run P w)∨(cap-(xs++ys).length)*sz≠0:=λh0 _=>by
      by_cases hfull:(cap-(xs++ys).length)*sz=0
      · left
        refine same (g.addTok none) w _ (G.le_addTok g none) (s.weaken hroom.le).retag (hrel _ _ (G.le_addTok g none) (λo v ho=>by rw[Array.getElem?_eq_none (by omega)]at ho;cases ho) ⟨Nat.lt_succ_self _,.inl hfull⟩) (hstore w (hnoStore h0))
      exact .inr hfull
    cases hroom with
    |full=>
      have h0:(cap-xs.length)*sz=0:=htl;have hz1:us.size=0:=by
        rw[husz];have:ys.length*sz≤(cap-xs.length)*sz:=Nat.mul_le_mul_right sz (by omega);omega
      rcases hzero hz1 (G.le.refl _)with h|h
      · exact h
      exfalso;apply h;have:(cap-(xs++ys).length)*sz≤(cap-xs.length)*sz:=Nat.mul_le_mul_right sz (by simp;omega);omega
    |own t ht=>
      obtain⟨htl1,htl2⟩:=htl;by_cases hz0:(cap-xs.length)*sz=0
      · have hz1:us.size=0:=by
          rw[husz];have:ys.length*sz≤(cap-xs.length)*sz:=Nat.mul_le_mul_right sz (by omega);omega
        rcases hzero hz1 (G.le.refl _)with h|h
        · exact h
        exfalso;apply h;have:(cap-(xs++ys).length)*sz≤(cap-xs.length)*sz:=Nat.mul_le_mul_right sz (by simp;omega);omega
      have hk:=htl2.resolve_left hz0;have hmulc:(xs.length*sz+us.size)+(cap-(xs++ys).length)*sz=cap*sz:=by
        rw[husz,←Nat.add_mul,←Nat.add_mul];congr 1;simp;omega
      have hmulx:xs.length*sz+(cap-xs.length)*sz=cap*sz:=by rw[←Nat.add_mul];congr 1;omega
      obtain⟨cells,S,hcell,hsize,hput⟩:=s.append_in ht hk us (by omega) hz0;have hrun:=run_storeCells_at (P:=P) b (off+xs.length*sz) S us.toList 0 cells w hcell (by simp;omega) (hus.oneCells (flat_one hry));simp only[Nat.add_zero]at hrun;rw[setRow_eq w b cells _ S (0,0) hcell]at hrun;obtain⟨g',hle,hnt,htok,hi,hs'⟩:=hput (cells.toList.take (off+xs.length*sz)++us.toList++cells.toList.drop (off+xs.length*sz+us.toList.length)).toArray (by simp;omega) (λo ho=>by
          have:=row_put_get cells.toList (off+xs.length*sz) us.toList (by simp;omega) o;rw[if_neg (by omega)]at this;simpa using this) (λo ho=>by
          have:=row_put_get cells.toList (off+xs.length*sz) us.toList (by simp;omega) (off+xs.length*sz+o);rw[if_pos (by simp;omega)]at this;simpa using this)
      refine same g' _ _ hle hs' (hrel g' g.ntok hle hi ⟨by omega,.inr ?_⟩) (hstore _ hrun);rw[htok];simp only[Option.some.injEq,Prod.mk.injEq,true_and];have e1:off+(xs++ys).length*sz=off+xs.length*sz+us.size:=by rw[husz,List.length_append,Nat.add_mul];omega
      exact⟨e1.symm,by omega⟩
theorem AStep.less{o:Oper}{R R':AV→Heap→Prop}(h:AStep P o env H R)(hr:∀x H',R x H'→∃y H'',Weak x y∧H''.le H'∧R' y H''):AStep P o env H R':=
  λg n a w k s=>(h g n a w k s).mono λ_ _ ⟨g',_,_,h1,h2,h3,h4⟩=>let⟨y,H'',hw,hl,hR⟩:=hr _ _ h4;⟨g',y,H'',h1,hw.rel h2,h3.weaken hl,hR⟩
theorem step_appendS{T T' E E':TypeId}{x y:Operand}{sz:Nat}{xs ys:List AV}{tl':Tail}{ti:TypeInfo}{z:Value}(hu:P.underlying T=some (.slice E))(hu':P.underlying T'=some (.slice E'))
    (hs:∀w,(sizeOf E).run P w= .ok sz w)(hti:∀w,(typeInfo E).run P w= .ok ti w)(hz:∀w,(zeroValue E).run P w= .ok z w)(hzl:z.cells.size=sz)(hb0:ti.bytes≠0)
    (hx:Ev env x (.slice sz xs .full))(hy:Ev env y (.slice sz ys tl'))(hfit:(xs.length+ys.length)*ti.bytes≤140737488355328)(hrx:∀x,x∈xs→x.row sz)(hry:∀y,y∈ys→y.row sz):
    AStep P ⟨dst,.call {callee:=.builtin .append,args:= #[x,y],argTypes:= #[T,T']},ty,pos,af,gd⟩ env H (λr H'=>r= .slice sz (xs++ys) .shared∧H'=H):=
  (step_append hu hu' hs hti hz hzl hb0 hx hy .full hfit hrx hry).less λ_ _ ⟨t,_,hr,hH⟩=>⟨_,H,hr▸ .slice _ _ _,hH▸Heap.le_live H t,rfl,rfl⟩
end
end
end Go.Proofs.YtojblnldfdeefaaGreatDoor
namespace Go.Proofs.YtojblnldfdeefaaGreatDoor
open Go Go.RowKit
section
section
variable{P:Program}{n:Fr}{Q:Exit→Env→Heap→Prop}{env:Env}{H:Heap}{ops:Array Oper}{l:List Oper}{op:Op}{ty:TypeId}{pos:String}{af:Array Edge}{gd:Option (Nat×Bool)}{x:AV}
theorem AList.p{d:Tmp}(hd:Nat.blt d n.size=true)(h:APure P ⟨some d,op,ty,pos,af,none⟩ env x)(k:AList P n ops Q l ((d,x)::env) H):AList P n ops Q (⟨some d,op,ty,pos,af,none⟩::l) env H:=
  AList.pure (.free rfl) hd h k
theorem AList.s{d:Tmp}{R:AV→Heap→Prop}(hd:Nat.blt d n.size=true)(h:AStep P ⟨some d,op,ty,pos,af,none⟩ env H R)(k:∀x H',R x H'→AList P n ops Q l ((d,x)::env) H'):AList P n ops Q (⟨some d,op,ty,pos,af,none⟩::l) env H:=
  AList.step (.free rfl) hd h k
theorem AList.s0{R:AV→Heap→Prop}(h:AStep P ⟨none,op,ty,pos,af,none⟩ env H R)(k:∀x H',R x H'→AList P n ops Q l env H'):AList P n ops Q (⟨none,op,ty,pos,af,none⟩::l) env H:=
  AList.step (.free rfl) rfl h k
theorem Wanted.yes{o:Oper}{j:Nat}{want b:Bool}{d:Tmp}(h:o.guard=some (j,want))(hd:(ops[j]?).bind (·.dst)=some d)(hb:env.get? d=some (.bool b))(hbw:b=want):Wanted ops env o true:=by
  have:=Wanted.guard (ops:=ops) (env:=env) (o:=o) j want b d h hd hb;rw[hbw]at this;simpa using this
theorem Wanted.no{o:Oper}{j:Nat}{want b:Bool}{d:Tmp}(h:o.guard=some (j,want))(hd:(ops[j]?).bind (·.dst)=some d)(hb:env.get? d=some (.bool b))(hbw:b= !want):Wanted ops env o false:=by
  have:=Wanted.guard (ops:=ops) (env:=env) (o:=o) j want b d h hd hb;rw[hbw]at this;cases want<;>simpa using this
theorem AList.gp{d:Tmp}{e:Tmp}{j:Nat}{want b:Bool}(hd:Nat.blt d n.size=true)(hg:(ops[j]?).bind (·.dst)=some e)(hb:env.get? e=some (.bool b))(hbw:b=want)(h:APure P ⟨some d,op,ty,pos,af,some (j,want)⟩ env x)
    (k:AList P n ops Q l ((d,x)::env) H):AList P n ops Q (⟨some d,op,ty,pos,af,some (j,want)⟩::l) env H:=
  AList.pure (.yes rfl hg hb hbw) hd h k
theorem AList.gs{d:Tmp}{e:Tmp}{j:Nat}{want b:Bool}{R:AV→Heap→Prop}(hd:Nat.blt d n.size=true)(hg:(ops[j]?).bind (·.dst)=some e)(hb:env.get? e=some (.bool b))(hbw:b=want)(h:AStep P ⟨some d,op,ty,pos,af,some (j,want)⟩ env H R)
    (k:∀x H',R x H'→AList P n ops Q l ((d,x)::env) H'):AList P n ops Q (⟨some d,op,ty,pos,af,some (j,want)⟩::l) env H:=
  AList.step (.yes rfl hg hb hbw) hd h k
theorem AList.gn{d:Tmp}{e:Tmp}{j:Nat}{want b:Bool}(hd:Nat.blt d n.size=true)(hg:(ops[j]?).bind (·.dst)=some e)(hb:env.get? e=some (.bool b))(hbw:b= !want)
    (k:AList P n ops Q l ((d,.raw undef)::env) H):AList P n ops Q (⟨some d,op,ty,pos,af,some (j,want)⟩::l) env H:=
  AList.unwanted (.no rfl hg hb hbw) hd k
theorem AList.gdead{d:Tmp}{e:Tmp}{j:Nat}{want:Bool}(hd:Nat.blt d n.size=true)(hg:(ops[j]?).bind (·.dst)=some e)(hb:env.get? e=some (.raw undef))
    (k:AList P n ops Q l ((d,.raw undef)::env) H):AList P n ops Q (⟨some d,op,ty,pos,af,some (j,want)⟩::l) env H:=
  AList.unwanted (.dead j want e rfl hg hb) hd k
variable{i:Nat}{r:List (Nat×Bool)}
theorem APlan.p{d:Tmp}(hi:ops[i]?=some ⟨some d,op,ty,pos,af,none⟩)(hd:Nat.blt d n.size=true)(h:APure P ⟨some d,op,ty,pos,af,none⟩ (Env.only (Oper.looksAt ops ⟨some d,op,ty,pos,af,none⟩) env) x)(k:APlan P n ops Q r ((d,x)::env) H):APlan P n ops Q ((i,true)::r) env H:=
  APlan.free hi (.free rfl) hd h.free k
theorem APlan.f{d:Tmp}(hi:ops[i]?=some ⟨some d,op,ty,pos,af,none⟩)(hd:Nat.blt d n.size=true)(h:AFree P ⟨some d,op,ty,pos,af,none⟩ (Env.only (Oper.looksAt ops ⟨some d,op,ty,pos,af,none⟩) env) x)(k:APlan P n ops Q r ((d,x)::env) H):APlan P n ops Q ((i,true)::r) env H:=
  APlan.free hi (.free rfl) hd h k
theorem APlan.s{d:Tmp}{R:AV→Heap→Prop}(hi:ops[i]?=some ⟨some d,op,ty,pos,af,none⟩)(hd:Nat.blt d n.size=true)(h:AStep P ⟨some d,op,ty,pos,af,none⟩ (Env.only (Oper.looksAt ops ⟨some d,op,ty,pos,af,none⟩) env) H R)(k:∀x H',R x H'→APlan P n ops Q r ((d,x)::env) H'):
    APlan P n ops Q ((i,false)::r) env H:=APlan.step hi (.free rfl) hd h k
theorem APlan.s0{R:AV→Heap→Prop}(hi:ops[i]?=some ⟨none,op,ty,pos,af,none⟩)(h:AStep P ⟨none,op,ty,pos,af,none⟩ (Env.only (Oper.looksAt ops ⟨none,op,ty,pos,af,none⟩) env) H R)(k:∀x H',R x H'→APlan P n ops Q r env H'):
    APlan P n ops Q ((i,false)::r) env H:=APlan.step hi (.free rfl) rfl h k
theorem APlan.gp{d:Tmp}{e:Tmp}{j:Nat}{want b:Bool}(hi:ops[i]?=some ⟨some d,op,ty,pos,af,some (j,want)⟩)(hd:Nat.blt d n.size=true)(hg:(ops[j]?).bind (·.dst)=some e)(hb:(Env.only (Oper.looksAt ops ⟨some d,op,ty,pos,af,some (j,want)⟩) env).get? e=some (.bool b))(hbw:b=want)
    (h:APure P ⟨some d,op,ty,pos,af,some (j,want)⟩ (Env.only (Oper.looksAt ops ⟨some d,op,ty,pos,af,some (j,want)⟩) env) x)(k:APlan P n ops Q r ((d,x)::env) H):APlan P n ops Q ((i,true)::r) env H:=
  APlan.free hi (.yes rfl hg hb hbw) hd h.free k
theorem APlan.gf{d:Tmp}{e:Tmp}{j:Nat}{want b:Bool}(hi:ops[i]?=some ⟨some d,op,ty,pos,af,some (j,want)⟩)(hd:Nat.blt d n.size=true)(hg:(ops[j]?).bind (·.dst)=some e)(hb:(Env.only (Oper.looksAt ops ⟨some d,op,ty,pos,af,some (j,want)⟩) env).get? e=some (.bool b))(hbw:b=want)
    (h:AFree P ⟨some d,op,ty,pos,af,some (j,want)⟩ (Env.only (Oper.looksAt ops ⟨some d,op,ty,pos,af,some (j,want)⟩) env) x)(k:APlan P n ops Q r ((d,x)::env) H):APlan P n ops Q ((i,true)::r) env H:=
  APlan.free hi (.yes rfl hg hb hbw) hd h k
theorem APlan.gs{d:Tmp}{e:Tmp}{j:Nat}{want b:Bool}{R:AV→Heap→Prop}(hi:ops[i]?=some ⟨some d,op,ty,pos,af,some (j,want)⟩)(hd:Nat.blt d n.size=true)(hg:(ops[j]?).bind (·.dst)=some e)(hb:(Env.only (Oper.looksAt ops ⟨some d,op,ty,pos,af,some (j,want)⟩) env).get? e=some (.bool b))(hbw:b=want)
    (h:AStep P ⟨some d,op,ty,pos,af,some (j,want)⟩ (Env.only (Oper.looksAt ops ⟨some d,op,ty,pos,af,some (j,want)⟩) env) H R)(k:∀x H',R x H'→APlan P n ops Q r ((d,x)::env) H'):APlan P n ops Q ((i,false)::r) env H:=
  APlan.step hi (.yes rfl hg hb hbw) hd h k
theorem APlan.gn{d:Tmp}{e:Tmp}{j:Nat}{want b:Bool}(hi:ops[i]?=some ⟨some d,op,ty,pos,af,some (j,want)⟩)(hd:Nat.blt d n.size=true)(hg:(ops[j]?).bind (·.dst)=some e)(hb:(Env.only (Oper.looksAt ops ⟨some d,op,ty,pos,af,some (j,want)⟩) env).get? e=some (.bool b))(hbw:b= !want)
    (k:APlan P n ops Q r ((d,.raw undef)::env) H):APlan P n ops Q ((i,true)::r) env H:=
  APlan.unwanted hi (.no rfl hg hb hbw) hd k
theorem APlan.gdead{d:Tmp}{e:Tmp}{j:Nat}{want:Bool}(hi:ops[i]?=some ⟨some d,op,ty,pos,af,some (j,want)⟩)(hd:Nat.blt d n.size=true)(hg:(ops[j]?).bind (·.dst)=some e)(hb:(Env.only (Oper.looksAt ops ⟨some d,op,ty,pos,af,some (j,want)⟩) env).get? e=some (.raw undef))
    (k:APlan P n ops Q r ((d,.raw undef)::env) H):APlan P n ops Q ((i,true)::r) env H:=
  APlan.unwanted hi (.dead j want e rfl hg hb) hd k
/-! ### where a way leaves -/
variable{N:Env→Heap→Prop}
theorem Next.ex{id:Nat}(h:Q (.exit id) env H):Next.q N Q (.exit id) env H:=h
theorem Next.rt(h:Q .ret env H):Next.q N Q .ret env H:=h
theorem Block.go{id:Nat}(h:Q .normal env H):Block.q id Q .normal env H:=h
theorem Block.rt{id:Nat}(h:Q .ret env H):Block.q id Q .ret env H:=h
theorem Block.hit{id:Nat}(h:Q .normal env H):Block.q id Q (.exit id) env H:=by simpa[Block.q]using h
theorem Block.miss{id id':Nat}(hne:Nat.beq id' id=false)(h:Q (.exit id') env H):Block.q id Q (.exit id') env H:=by
  have:id'≠id:=Nat.ne_of_beq_eq_false hne;simpa[Block.q,this]using h
theorem AWP.seqM{a b:Code}(M:Env→Heap→Prop)(h:AWP P n a (Next.q M Q) env H)(k:∀env' H',M env' H'→AWP P n b Q env' H'):AWP P n (.seq a b) Q env H:=
  AWP.seq (h.mono λe env' H' hq=>by cases e<;>first|exact k _ _ hq|exact hq)
def Meets(M:Env→Heap→Prop):Env→Heap→Prop:=λenv H=>∃env' H',Env.sub env' env∧H'.le H∧M env' H'
theorem AWP.meet{a b:Code}(M:Env→Heap→Prop)(h:AWP P n a (Next.q (Meets M) Q) env H)(k:∀env' H',M env' H'→AWP P n b Q env' H'):AWP P n (.seq a b) Q env H:=
  AWP.seqM (Meets M) h λ_ _ ⟨_,_,h1,h2,h3⟩=>(k _ _ h3).weaken h1 h2
theorem sub_b{e e':Env}{k:Nat}{b b':Bool}(h:Env.get? e' k=some (.bool b'))(hb:b'=b)(r:Env.sub e e'):Env.sub ((k,.bool b)::e) e':=⟨by rw[h,hb],r⟩
theorem AWP.seqTo{a b:Code}(d:Nat)(x:AV)(ks:List Nat)(ha:AWP P n a (λe env' H'=>e= .normal∧Env.sub ((d,x)::Env.only ks env) env'∧H'=H) env H)(hb:AWP P n b Q ((d,x)::Env.only ks env) H):AWP P n (.seq a b) Q env H:=by
  refine AWP.seq (ha.mono λe env' H' hq=>?_);obtain⟨rfl,hs,rfl⟩:=hq;exact hb.sub _ hs
theorem Meets.mk{M:Env→Heap→Prop}{env':Env}{H':Heap}(h:M env' H')(hs:Env.sub env' env)(hl:H'.le H):Meets M env H:=⟨env',H',hs,hl,h⟩
theorem sub_n{e:Env}:Env.sub [] e:=trivial
theorem sub_c{e e':Env}{k:Nat}{v:AV}(h:Env.get? e' k=some v)(r:Env.sub e e'):Env.sub ((k,v)::e) e':=⟨h,r⟩
theorem sub_e{e e':Env}{k:Nat}{v v':AV}(h:Env.get? e' k=some v')(hv:v'=v)(r:Env.sub e e'):Env.sub ((k,v)::e) e':=⟨by rw[h,hv],r⟩
theorem slice_eq{sz:Nat}{xs ys:List AV}{tl:Tail}(h:xs=ys):AV.slice sz xs tl=AV.slice sz ys tl:=by rw[h]
theorem Round.mk{J:Nat→Env→Heap→Prop}{k k':Nat}{env':Env}{H':Heap}(h:J k' env' H')(hs:Env.sub env' env)(hl:H'.le H)(hk:k'<k):
    ∃k' env'' H'',k'<k∧Env.sub env'' env∧H''.le H∧J k' env'' H'':=⟨k',env',H',hk,hs,hl,h⟩
theorem AWP.loopW{c:Code}(J:Nat→Env→Heap→Prop)(k0:Nat){env':Env}{H':Heap}(h0:J k0 env' H')(hs:Env.sub env' env)(hl:H'.le H)
    (hround:∀k env H,J k env H→AWP P n c (Next.q (λenv' H'=>∃k' env'' H'',k'<k∧Env.sub env'' env'∧H''.le H'∧J k' env'' H'') Q) env H):AWP P n (.loop c) Q env H:=
  (AWP.loop J k0 h0 hround).weaken hs hl
theorem AWP.frz{c:Code}{t b:Nat}{T:TypeId}{cs:List AV}(ht:env.get? t=some (.ptr (some ⟨b,0,none⟩)))(hb:H.objs b=none)(h:AWP P n c Q ((t,.iptr cs)::env) H):AWP P n c Q env (H.set b (.box T cs)):=by
  intro g a w ka s;obtain⟨vs,hr,hi,hle,s'⟩:=s.freeze (Heap.objs_set_same H b (.box T cs));have e:(H.set b (.box T cs)).drop b=H:=by
    simp only[Heap.drop,Heap.set];cases H with
    |mk objs toks=>
      simp only[Heap.mk.injEq,and_true]
      funext k
      split
      · rename_i h;subst h;exact hb.symm
      rfl
  rw[e]at s';refine wp_mono (h _ a w ⟨ka.size,ka.defers,λt' x hx=>?_⟩ s') λ_ _ _ q=>q.up hle;simp only[Env.get?]at hx;cases hk:Nat.beq t t' with
  |true=>
    rw[hk]at hx;have:t=t':=Nat.eq_of_beq_eq_true hk;subst this;cases hx
    obtain⟨v,hv,hrv⟩:=ka.at_ t _ ht;cases hrv
    refine⟨_,hv,.iptr cs b 0 (λi=>vs.getD i undef) (λi hi'=>?_) (λi c hc=>?_)⟩
    · rw[Nat.zero_add];exact hi i _ (by have:=hr.1;simp[show i<vs.size by omega])
    obtain⟨u,hu,hru⟩:=hr.at hc;have:vs.getD i undef=u:=by simp[hu]
    rw[this];exact hru.mono hle
  |false=>
    rw[hk]at hx;obtain⟨v,hv,hr'⟩:=ka.at_ t' x hx;exact⟨v,hv,hr'.mono hle⟩
theorem AWP.dropb{c:Code}{b:Nat}{o:AObj}(hb:H.objs b=none)(h:AWP P n c Q env H):AWP P n c Q env (H.set b o):=
  λg a w k s=>h g a w k (s.weaken (Heap.le_set hb o))
theorem AWP.weakv{c:Code}{t:Nat}{x:AV}(y:AV)(ht:env.get? t=some x)(hw:Weak x y)(h:AWP P n c Q ((t,y)::env) H):AWP P n c Q env H:=by
  intro g a w ka s;refine h g a w ⟨ka.size,ka.defers,λt' z hz=>?_⟩ s;simp only[Env.get?]at hz;cases hk:Nat.beq t t' with
  |true=>
    rw[hk]at hz;have:t=t':=Nat.eq_of_beq_eq_true hk;subst this;cases hz
    obtain⟨v,hv,hr⟩:=ka.at_ t _ ht;exact⟨v,hv,hw.rel hr⟩
  |false=>rw[hk]at hz;exact ka.at_ t' z hz
theorem AWP.tag{c:Code}{t sz:Nat}{xs:List AV}(ht:env.get? t=some (.slice sz xs .full))(h:∀u,H.toks u=false→AWP P n c Q ((t,.slice sz xs (.own u))::env) (H.live u)):AWP P n c Q env H:=by
  intro g a w ka s;have hf:H.toks g.ntok=false:=by
    cases e:H.toks g.ntok with
    |false=>rfl
    |true=>have:=s.tokLt _ e;omega
  have hle:=G.le_addTok g none;refine wp_mono (h g.ntok hf _ a w ⟨ka.size,ka.defers,λt' x hx=>?_⟩ s.retag) λ_ _ _ q=>q.up hle;simp only[Env.get?]at hx;cases hk:Nat.beq t t' with
  |true=>
    rw[hk]at hx;have:t=t':=Nat.eq_of_beq_eq_true hk;subst this;cases hx
    obtain⟨v,hv,hrv⟩:=ka.at_ t _ ht;refine⟨v,hv,?_⟩;cases hrv with
    |nilSlice=>exact .nilSlice _ _
    |slice sz xs tl b off cap vs h1 h2 h3 h4 h5 h6=>exact .slice sz xs _ b off cap vs h1 h2 (λi j x c hx hc=>(h3 i j x c hx hc).mono hle) h4 h5 ⟨Nat.lt_succ_self _,.inl h6⟩
  |false=>
    rw[hk]at hx;obtain⟨v,hv,hr'⟩:=ka.at_ t' x hx;exact⟨v,hv,hr'.mono hle⟩
/-! ### heaps -/
theorem Heap.ne_of{H:Heap}{b c:Nat}{y:AObj}(h:H.objs b=some y)(k:H.objs c=none):b≠c:=by rintro rfl;rw[h]at k;cases k
theorem Heap.set_under{H:Heap}{b c:Nat}(h:b≠c)(x x' y:AObj):((H.set b x).set c y).set b x'=(H.set b x').set c y:=by
  simp only[Heap.set,Heap.mk.injEq,and_true]
  funext k
  by_cases h1:k=b
  · subst h1;simp[h]
  by_cases h2:k=c
  · subst h2;simp[h1]
  simp[h1,h2]
theorem Heap.fresh_set{H:Heap}{b c:Nat}{x:AObj}(h:(H.set b x).objs c=none)(x':AObj):(H.set b x').objs c=none:=by
  by_cases e:c=b
  · subst e;simp at h
  rw[Heap.objs_set_ne _ _ e]at h ⊢;exact h
theorem Heap.le_out{H H1:Heap}{t:Nat}(h:H.le H1)(ht:H.toks t=false):H.le (H1.kill t):=by
  refine⟨h.objs,λk hk=>?_⟩;have:=h.toks k hk;have hne:k≠t:=by rintro rfl;rw[ht]at hk;cases hk
  simp[Heap.kill,hne,this]
theorem Heap.le_in{H H1:Heap}(h:H.le H1)(t:Nat):H.le (H1.live t):=h.trans (Heap.le_live _ _)
theorem Heap.fresh_of{H H1:Heap}{t:Nat}(h:H.le H1)(ht:H1.toks t=false):H.toks t=false:=by
  cases e:H.toks t with
  |false=>rfl
  |true=>rw[h.toks t e]at ht;cases ht
/-! ### lists of data -/
inductive RelL (g:G):List AV→List Value→Prop
  |nil:RelL g [] []
  |cons {x v xs vs} (h:RelV g x v) (k:RelL g xs vs):RelL g (x::xs) (v::vs)
theorem RelL.cells{g:G}{cs:List AV}{vs:List Value}(h:RelL g cs vs):RelCells g cs vs.toArray:=by
  induction h with
  |nil=>exact RelCells.nil g
  |cons h _ ih=>have:=RelCells.cons h ih;simpa using this
theorem row_int{k:IntKind}(l:List Int):∀x,x∈l.map (AV.int k)→x.row 1:=λx hx=>by
  obtain⟨i,_,rfl⟩:=List.mem_map.1 hx;exact⟨rfl,rfl⟩
theorem pure_sliceHiL{α:Type}{dst:Option Tmp}{T E:TypeId}{y i:Operand}{sz:Nat}{f:α→AV}{xs:List α}{tl:Tail}{k:IntKind}{m:Int}(hu:P.underlying T=some (.slice E))(hs:∀w,(sizeOf E).run P w= .ok sz w)
    (hx:Ev env y (.slice sz (xs.map f) tl))(hi:Ev env i (.int k m))(h0:0≤m)(h:m.toNat≤xs.length):APure P ⟨dst,.slice T y none (some i) none,ty,pos,af,gd⟩ env (.slice sz ((xs.take m.toNat).map f) .shared):=by
  have:=pure_slice (dst:=dst) (ty:=ty) (pos:=pos) (af:=af) (gd:=gd) hu hs hx .no (.yes _ _ _ hi h0) (by simp) (by simpa using h);simpa[pieceTail,List.map_take]using this
theorem pure_sliceLoL{α:Type}{dst:Option Tmp}{T E:TypeId}{y i:Operand}{sz:Nat}{f:α→AV}{xs:List α}{tl:Tail}{k:IntKind}{m:Int}(hu:P.underlying T=some (.slice E))(hs:∀w,(sizeOf E).run P w= .ok sz w)
    (hx:Ev env y (.slice sz (xs.map f) tl))(hi:Ev env i (.int k m))(h0:0≤m)(h:m.toNat≤xs.length):APure P ⟨dst,.slice T y (some i) none none,ty,pos,af,gd⟩ env (.slice sz ((xs.drop m.toNat).map f) tl):=by
  have:=pure_slice (dst:=dst) (ty:=ty) (pos:=pos) (af:=af) (gd:=gd) hu hs hx (.yes _ _ _ hi h0) .no (by simpa using h) (by simp);rw[show((List.map f xs).take (Option.none.getD (List.map f xs).length))=List.map f xs from by rw[Option.getD_none,List.take_length],Option.getD_some,←List.map_drop]at this;exact this
theorem pure_lenL{α:Type}{dst:Option Tmp}{T E:TypeId}{y:Operand}{sz:Nat}{f:α→AV}{xs:List α}{tl:Tail}(hu:P.underlying T=some (.slice E))(hx:Ev env y (.slice sz (xs.map f) tl)):
    APure P ⟨dst,.call {callee:=.builtin .len,args:= #[y],argTypes:= #[T]},ty,pos,af,gd⟩ env (.int .i64 xs.length):=by
  have:=pure_lenS (dst:=dst) (ty:=ty) (pos:=pos) (af:=af) (gd:=gd) hu hx
  rwa[List.length_map]at this
theorem pure_indexL{α:Type}{dst:Option Tmp}{T E:TypeId}{y i:Operand}{sz:Nat}{f:α→AV}{xs:List α}{tl:Tail}{k:IntKind}{m:Int}(hu:P.underlying T=some (.slice E))(hs:∀w,(sizeOf E).run P w= .ok sz w)
    (hx:Ev env y (.slice sz (xs.map f) tl))(hi:Ev env i (.int k m))(h0:0≤m)(h:m.toNat<xs.length):APure P ⟨dst,.indexAddr T y i,ty,pos,af,gd⟩ env (.iptr (f xs[m.toNat]).cells):=
  pure_indexS hu hs hx hi h0 (by simp[h])
end
end
section
section
variable{P:Program}{env:Env}{H:Heap}{dst:Option Tmp}{ty:TypeId}{pos:String}{af:Array Edge}{gd:Option (Nat×Bool)}
theorem pure_pickT{c x y:Operand}{t:Bool}{z:AV}(hc:Ev env c (.bool t))(ht:t=true)(hx:Ev env x z):APure P ⟨dst,.pick c x y,ty,pos,af,gd⟩ env z:=
  pure_pick hc (λ_=>hx) (λe=>by rw[ht]at e;cases e)
theorem pure_pickF{c x y:Operand}{t:Bool}{z:AV}(hc:Ev env c (.bool t))(ht:t=false)(hy:Ev env y z):APure P ⟨dst,.pick c x y,ty,pos,af,gd⟩ env z:=
  pure_pick hc (λe=>by rw[ht]at e;cases e) (λ_=>hy)
theorem run_neq_of{T:TypeId}{v u:Value}{b:Bool}{w:World}(hd:binOp .neq T v u=(do pure (.bool (!(←Op.equal T v u))):Sem Value))(h:(Op.equal T v u).run P w= .ok b w):(binOp .neq T v u).run P w= .ok (.bool !b) w:=by
  rw[hd,Sem.run_bind,h];rfl
theorem run_eql_of{T:TypeId}{v u:Value}{b:Bool}{w:World}(hd:binOp .eql T v u=(do pure (.bool (←Op.equal T v u)):Sem Value))(h:(Op.equal T v u).run P w= .ok b w):(binOp .eql T v u).run P w= .ok (.bool b) w:=by
  rw[hd,Sem.run_bind,h];rfl
theorem exec_bin{op:BinOp}{T T':TypeId}{x y:Operand}{a:Act}{v u r:Value}{w:World}(he:a.eval x=v)(hf:a.eval y=u)(hg:(eqGuard op T x y v u).run P w= .ok () w)(h:(binOp op T v u).run P w= .ok r w):
    (execOp a.eval ⟨dst,.binOp op T x y T',ty,pos,af,gd⟩).run P w= .ok (.value r) w:=by
  simp only[execOp,he,hf];simp[hg,h]
theorem pure_eqlB{T T':TypeId}{x y:Operand}{m q:Bool}(hu:P.underlying T=some .bool)(hx:Ev env x (.bool m))(hy:Ev env y (.bool q)):APure P ⟨dst,.binOp .eql T x y T',ty,pos,af,gd⟩ env (.bool (m==q)):=by
  intro g n a ka;obtain⟨v,he,hv⟩:=ev1 hx ka;obtain⟨u,hf,hu'⟩:=ev1 hy ka;cases hv;cases hu'
  exact⟨_,.bool _,λw _=>exec_bin he hf rfl (run_eql_of rfl (run_equal_bool w T m q hu))⟩
theorem pure_neqB{T T':TypeId}{x y:Operand}{m q:Bool}(hu:P.underlying T=some .bool)(hx:Ev env x (.bool m))(hy:Ev env y (.bool q)):APure P ⟨dst,.binOp .neq T x y T',ty,pos,af,gd⟩ env (.bool (!(m==q))):=by
  intro g n a ka;obtain⟨v,he,hv⟩:=ev1 hx ka;obtain⟨u,hf,hu'⟩:=ev1 hy ka;cases hv;cases hu'
  exact⟨_,.bool _,λw _=>exec_bin he hf rfl (run_neq_of rfl (run_equal_bool w T m q hu))⟩
/-! slices of few elements -/
theorem raw_cells(g:G)(vs:Array Value):RelCells g (vs.toList.map AV.raw) vs:=by
  refine⟨by simp,λi c v hc hv=>?_⟩;simp only[List.getElem?_map,Array.getElem?_toList]at hc;rw[hv]at hc;cases hc
  exact .raw v
theorem range_raw(g:G)(n:Nat)(f:Nat→Value):RelCells g ((List.range n).map λi=>AV.raw (f i)) ((Array.range n).map f):=by
  have:=raw_cells g ((Array.range n).map f);simpa[Function.comp_def]using this
theorem row_n{sz:Nat}:∀x,x∈([]:List AV)→x.row sz:=λx hx=>by simp at hx
theorem row_c{sz:Nat}{a:AV}{xs:List AV}(h:a.row sz)(k:∀x,x∈xs→x.row sz):∀x,x∈a::xs→x.row sz:=λx hx=>by
  rcases List.mem_cons.1 hx with rfl|h'
  · exact h
  exact k x h'
theorem row_app{sz:Nat}{xs ys:List AV}(h:∀x,x∈xs→x.row sz)(k:∀x,x∈ys→x.row sz):∀x,x∈xs++ys→x.row sz:=λx hx=>by
  rcases List.mem_append.1 hx with h'|h'
  · exact h x h'
  exact k x h'
theorem row_drop{sz:Nat}{xs:List AV}{k:Nat}(h:∀x,x∈xs→x.row sz):∀x,x∈xs.drop k→x.row sz:=λx hx=>h x (List.mem_of_mem_drop hx)
theorem row_take{sz:Nat}{xs:List AV}{k:Nat}(h:∀x,x∈xs→x.row sz):∀x,x∈xs.take k→x.row sz:=λx hx=>h x (List.mem_of_mem_take hx)
theorem step_bs0{T E:TypeId}{sz:Nat}{z:Value}(hu:P.underlying T=some (.slice E))(hs:∀w,(sizeOf E).run P w= .ok sz w)(hz:∀w,(zeroValue E).run P w= .ok z w):
    AStep P ⟨dst,.buildSlice T 0 #[],ty,pos,af,gd⟩ env H (λy H'=>y= .slice sz [] .full∧H'=H):=
  step_buildSlice (ops:=[]) hu hs hz (λg=>range_raw g _ _) (by simp[Nat.ble]) rfl .nil row_n rfl (by simp[fillA])
theorem step_bs1{T E:TypeId}{sz:Nat}{z:Value}{o:Operand}{x:AV}(hu:P.underlying T=some (.slice E))(hs:∀w,(sizeOf E).run P w= .ok sz w)(hz:∀w,(zeroValue E).run P w= .ok z w)(hsz:Nat.ble (1*sz) 16777216=true)(h:Ev env o x)
    (h1:x.one=true∨∃cs,x= .agg cs)(hr:x.row sz):AStep P ⟨dst,.buildSlice T 1 #[(0,o)],ty,pos,af,gd⟩ env H (λy H'=>y= .slice sz [x] .full∧H'=H):=by
  refine step_buildSlice (ops:=[(0,o)]) hu hs hz (λg=>range_raw g _ _) hsz rfl (.cons h h1 .nil) (row_c hr row_n) rfl ?_;simp only[fillA,hr.1,Nat.zero_mul,Nat.one_mul,putRow];simp
theorem step_bs2{T E:TypeId}{sz:Nat}{z:Value}{o o':Operand}{x x':AV}(hu:P.underlying T=some (.slice E))(hs:∀w,(sizeOf E).run P w= .ok sz w)(hz:∀w,(zeroValue E).run P w= .ok z w)(hsz:Nat.ble (2*sz) 16777216=true)(h:Ev env o x)
    (h1:x.one=true∨∃cs,x= .agg cs)(hr:x.row sz)(h':Ev env o' x')(h1':x'.one=true∨∃cs,x'= .agg cs)(hr':x'.row sz):
    AStep P ⟨dst,.buildSlice T 2 #[(0,o),(1,o')],ty,pos,af,gd⟩ env H (λy H'=>y= .slice sz [x,x'] .full∧H'=H):=by
  refine step_buildSlice (ops:=[(0,o),(1,o')]) hu hs hz (λg=>range_raw g _ _) hsz rfl (.cons h h1 (.cons h' h1' .nil)) (row_c hr (row_c hr' row_n)) rfl ?_;have e1:=hr.1;have e2:=hr'.1;have hl:((List.range (2*sz)).map λi=>AV.raw (z.cells[i%z.cells.size]!)).length=2*sz:=by simp
  generalize((List.range (2*sz)).map λi=>AV.raw (z.cells[i%z.cells.size]!))=zs at hl;simp only[fillA,Nat.zero_mul,Nat.one_mul];rw[if_pos ⟨e1,by omega⟩,if_pos ⟨e2,by simp[putRow];omega⟩];simp only[putRow,List.take_zero,List.nil_append,Nat.zero_add,List.flatMap_cons,List.flatMap_nil,List.append_nil,Option.some.injEq];rw[List.take_left' e1,List.drop_eq_nil_of_le (by simp;omega)];simp
/-! guards -/
end
section
variable{P:Program}{n:Fr}{Q:Exit→Env→Heap→Prop}{env:Env}{H:Heap}{ops:Array Oper}{l:List Oper}
theorem bool_casesL{b:Bool}{t:Nat}(_h:env.get? t=some (.bool b))(ht:b=true→AList P n ops Q l env H)(hf:b=false→AList P n ops Q l env H):AList P n ops Q l env H:=by
  cases b
  · exact hf rfl
  exact ht rfl
theorem bool_casesP{b:Bool}{t:Nat}{r:List (Nat×Bool)}(_h:env.get? t=some (.bool b))(ht:b=true→APlan P n ops Q r env H)(hf:b=false→APlan P n ops Q r env H):APlan P n ops Q r env H:=by
  cases b
  · exact hf rfl
  exact ht rfl
end
end
section
def AV.plain:AV→Option Value
  | .bool b=>some (.bool b)
  | .int k n=>some (.int k n)
  | .str s=>some (.string ⟨s.toArray⟩)
  |_=>none
theorem RelV.plain{g:G}{a:AV}{v u:Value}(h:RelV g a v)(hp:a.plain=some u):v=u:=by
  cases h<;>simp_all[AV.plain]
theorem RelCells.plain{g:G}{cs:List AV}{vs:Array Value}(us:List Value)(h:RelCells g cs vs)(hp:cs.map AV.plain=us.map some):vs=us.toArray:=by
  have hl:cs.length=us.length:=by simpa using congrArg List.length hp
  apply Array.ext
  · rw[←h.1,hl];simp
  intro i h1 h2;have hi:i<cs.length:=by rw[h.1];exact h1
  have e:(cs[i]).plain=some (us[i]'(by omega)):=by
    have:=congrArg (λl=>l[i]?) hp;simpa[hi,show i<us.length by omega]using this
  have:=(h.2 i cs[i] vs[i] (List.getElem?_eq_getElem hi) (Array.getElem?_eq_getElem h1)).plain e;simpa using this
def EqCells(P:Program)(T:TypeId)(cs ds:List AV)(b:Bool):Prop:=
  ∀g xs ys w,RelCells g cs xs→RelCells g ds ys→(Op.equalIn 10000 T (.agg xs) (.agg ys)).run P w= .ok b w
section
variable{P:Program}{dst:Option Tmp}{ty:TypeId}{pos:String}{af:Array Edge}{gd:Option (Nat×Bool)}{env:Env}
theorem pure_eqlA{T T':TypeId}{x y:Operand}{cs ds:List AV}{b:Bool}(hm:P.eqGuardType P.depth T=false)(hx:Ev env x (.agg cs))(hy:Ev env y (.agg ds))(h:EqCells P T cs ds b):
    APure P ⟨dst,.binOp .eql T x y T',ty,pos,af,gd⟩ env (.bool b):=by
  intro g n a ka;obtain⟨v,he,hv⟩:=ev1 hx ka;obtain⟨u,hf,hu⟩:=ev1 hy ka;obtain⟨vs,rfl,hr⟩:=hv.cells_agg;obtain⟨us,rfl,hs⟩:=hu.cells_agg;refine⟨_,.bool _,λw _=>exec_bin he hf (run_eqGuard_agg w _ _ _ _ _ _ hm) ?_⟩;rw[run_eql_struct,h g vs us w hr hs];rfl
theorem pure_neqA{T T':TypeId}{x y:Operand}{cs ds:List AV}{b:Bool}(hm:P.eqGuardType P.depth T=false)(hx:Ev env x (.agg cs))(hy:Ev env y (.agg ds))(h:EqCells P T cs ds b):
    APure P ⟨dst,.binOp .neq T x y T',ty,pos,af,gd⟩ env (.bool (!b)):=by
  intro g n a ka;obtain⟨v,he,hv⟩:=ev1 hx ka;obtain⟨u,hf,hu⟩:=ev1 hy ka;obtain⟨vs,rfl,hr⟩:=hv.cells_agg;obtain⟨us,rfl,hs⟩:=hu.cells_agg;refine⟨_,.bool _,λw _=>exec_bin he hf (run_eqGuard_agg w _ _ _ _ _ _ hm) ?_⟩;rw[run_neq_struct,h g vs us w hr hs];rfl
theorem run_slice_nilIn{T E:TypeId}(d:Nat)(h:P.underlying T=some (.slice E))(p:Option Addr)(l c:Nat)(w:World):(Op.equalIn (d+1) T (.slice p l c) (.slice none 0 0)).run P w= .ok p.isNone w:=by
  cases p<;>simp[Op.equalIn,run_underlying h]
theorem run_slice_nil{T E:TypeId}(h:P.underlying T=some (.slice E))(p:Option Addr)(l c:Nat)(w:World):(Op.equal T (.slice p l c) (.slice none 0 0)).run P w= .ok p.isNone w:=run_slice_nilIn 9999 h p l c w
theorem step_eqlNS{T E T':TypeId}{x:Operand}{sz:Nat}{xs:List AV}{tl:Tail}{H:Heap}(hu:P.underlying T=some (.slice E))(hx:Ev env x (.slice sz xs tl)):
    AStep P ⟨dst,.binOp .eql T x (.const (.slice none 0 0)) T',ty,pos,af,gd⟩ env H (λz H'=>∃b,(b=true→xs=[])∧z= .bool b∧H'=H):=by
  intro g n a w ka s;obtain⟨v,he,hv⟩:=ev1 hx ka;have key:∀(p:Option Addr)(l c:Nat),v= .slice p l c→(p.isNone=true→xs=[])→YieldsTo P (λv w'=>∃g' x H',g.le g'∧RelV g' x v∧Sat g' H' w'∧∃b,(b=true→xs=[])∧x= .bool b∧H'=H) ((execOp a.eval ⟨dst,.binOp .eql T x (.const (.slice none 0 0)) T',ty,pos,af,gd⟩).run P w):=by
    intro p l c hvp hp;rw[exec_bin (v:=.slice p l c) (u:=.slice none 0 0) (he.trans hvp) rfl rfl (run_eql_of rfl (run_slice_nil hu p l c w))];exact⟨g,.bool p.isNone,H,.id,.bool _,s,p.isNone,hp,rfl,rfl⟩
  cases hv with
  |nilSlice=>exact key none 0 0 rfl (λ_=>rfl)
  |voidSlice=>exact key _ 0 0 rfl (λ_=>rfl)
  |slice sz xs tl b off cap vs h1 h2 h3 h4 h5 h6=>exact key _ _ _ rfl (λh=>by simp at h)
end
end
section
def ents(k:IntKind)(M:List (Int×AV)):List (AV×AV):=M.map λe=>(.int k e.1,e.2)
def mget:List (Int×AV)→Int→Option AV
  | [],_=>none
  |(d,y)::r,c=>if d=c then some y else mget r c
def mset:List (Int×AV)→Int→AV→List (Int×AV)
  | [],c,x=>[(c,x)]
  |(d,y)::r,c,x=>if d=c then(c,x)::r else(d,y)::mset r c x
def mdel:List (Int×AV)→Int→List (Int×AV)
  | [],_=>[]
  |(d,y)::r,c=>if d=c then r else(d,y)::mdel r c
inductive RelM (g:G) (k:IntKind):List (Int×AV)→List MapEntry→Prop
  |nil:RelM g k [] []
  |cons {c:Int} {x:AV} {M:List (Int×AV)} {e:MapEntry} {l:List MapEntry} (h:e.key= .int k c) (hv:RelV g x e.val) (r:RelM g k M l):RelM g k ((c,x)::M) (e::l)
theorem RelM.of{g:G}{k:IntKind}:∀{M:List (Int×AV)}{l:List MapEntry},RelEnts g (ents k M) l.toArray→RelM g k M l
  | [],l,h=>by
    have:=h.1;cases l with
    |nil=>exact .nil
    |cons e l=>simp[ents]at this
  |(c,x)::M,l,h=>by
    have h1:=h.1;cases l with
    |nil=>simp[ents]at h1
    |cons e l=>
      have h0:=h.2 0 (.int k c) x e rfl (by simp);refine .cons ?_ h0.2 (RelM.of ⟨by simpa[ents]using h1,λi k' y e' he he'=>h.2 (i+1) k' y e' (by simpa[ents]using he) (by simpa using he')⟩);have h2:=h0.1;generalize e.key=key at h2;cases h2;rfl
theorem RelM.to{g:G}{k:IntKind}{M:List (Int×AV)}{l:List MapEntry}(h:RelM g k M l):RelEnts g (ents k M) l.toArray:=by
  induction h with
  |nil=>exact⟨rfl,λi k x e he=>by simp[ents]at he⟩
  | @cons c x M e l hk hv _ ih=>
    refine⟨by simpa[ents]using ih.1,λi k' y e' he he'=>?_⟩;cases i with
    |zero=>
      simp[ents]at he he';obtain⟨rfl,rfl⟩:=he;subst he';exact⟨hk▸ .int _ _,hv⟩
    |succ i=>exact ih.2 i k' y e' (by simpa[ents]using he) (by simpa using he')
theorem RelM.find{g:G}{k kt:IntKind}{M:List (Int×AV)}{l:List MapEntry}(h:RelM g k M l)(c:Int):∀i:Nat,
    (mget M c=none∧Instr.findNow (.int kt) (.int k c) l i=some none∧mdel M c=M∧∀y v b,RelV g y v→RelM g k (mset M c y) (l++[⟨.int k c,v,b⟩]))∨
    ∃j e x,mget M c=some x∧Instr.findNow (.int kt) (.int k c) l i=some (some (i+j,e.val))∧RelV g x e.val∧l[j]?=some e∧e.key= .int k c∧RelM g k (mdel M c) (l.eraseIdx j)∧
      ∀y v,RelV g y v→RelM g k (mset M c y) (l.modify j λe=>{e with key:=.int k c,val:=v}):=by
  induction h with
  |nil=>exact λi=>.inl ⟨rfl,rfl,rfl,λy v b hv=>.cons rfl hv .nil⟩
  | @cons d x M e l hk hv hr ih=>
    intro i;have hs:Instr.sameNow (.int kt) (.int k c) e.key=some (c==d):=by rw[hk];simp[Instr.sameNow]
    by_cases hd:d=c
    · subst hd;refine .inr ⟨0,e,x,by simp[mget],by simp[Instr.findNow,hs],hv,rfl,hk,by simpa[mdel]using hr,λy v hy=>?_⟩;simp only[mset,if_true,List.modify];exact .cons rfl hy hr
    have hsf:Instr.sameNow (.int kt) (.int k c) e.key=some false:=by rw[hs,beq_eq_false_iff_ne.2 (λh=>hd h.symm)]
    rcases ih (i+1)with⟨h1,h2,h3,h4⟩|⟨j,e',x',h1,h2,h3,h4,h5,h6,h7⟩
    · refine .inl ⟨by simp[mget,hd,h1],by simp only[Instr.findNow,hsf,h2],by simp[mdel,hd,h3],λy v b hy=>?_⟩;simp only[mset,hd,if_false,List.cons_append];exact .cons hk hv (h4 y v b hy)
    refine .inr ⟨j+1,e',x',by simp[mget,hd,h1],by simp only[Instr.findNow,hsf,h2];rw[show i+1+j=i+(j+1) by omega],h3,by simpa using h4,h5,?_,λy v hy=>?_⟩
    · simp only[mdel,hd,if_false,List.eraseIdx_cons_succ];exact .cons hk hv h6
    simp only[mset,hd,if_false,List.modify_succ_cons];exact .cons hk hv (h7 y v hy)
theorem RelM.none{g:G}{k:IntKind}{M:List (Int×AV)}{l:List MapEntry}(h:RelM g k M l){c:Int}(hc:mget M c= .none):∀e∈l,e.key≠ .int k c:=by
  induction h with
  |nil=>intro e he;simp at he
  | @cons d x M e l hk hv hr ih=>
    simp only[mget]at hc;split at hc
    · cases hc
    rename_i hd
    intro e' he';rcases List.mem_cons.1 he' with rfl|he'
    · rw[hk];intro h;cases h;exact hd rfl
    exact ih hc e' he'
/-! ### the operations -/
section
variable{P:Program}{dst:Option Tmp}{ty:TypeId}{pos:String}{af:Array Edge}{gd:Option (Nat×Bool)}{env:Env}{H:Heap}
theorem Sat.entries{g:G}{H:Heap}{w:World}(s:Sat g H w){m:Nat}{k:IntKind}{M:List (Int×AV)}(hm:H.objs m=some (.map (ents k M))):
    ∃es clock,w.heap[m]?=some (.map es clock)∧RelM g k M es.toList∧MapKept.Stamped es clock:=by
  obtain⟨es,clock,h1,h2⟩:=s.map m _ hm;exact⟨es,clock,h1,RelM.of h2.1,h2.2⟩
theorem RelM.length{g:G}{k:IntKind}{M:List (Int×AV)}{l:List MapEntry}(h:RelM g k M l):l.length=M.length:=by
  induction h with
  |nil=>rfl
  |cons _ _ _ ih=>simp[ih]
end
end
section
theorem Sat.grow{g:G}{H:Heap}{w w':World}(s:Sat g H w)(hb:Below w.heap.size w w'):Sat g H w':=by
  have old:∀{b:Nat}{o:Obj},w.heap[b]?=some o→w'.heap[b]?=some o:=fun{b o} h=>(hb.block b (Array.getElem?_eq_some_iff.1 h).1).trans h
  refine⟨s.below.trans ⟨hb.os,hb.tape,hb.output,hb.size,λk hk=>hb.block k (Nat.lt_of_lt_of_le hk s.below.size)⟩,λb o v hv=>?_,λb T cs h=>?_,λb es h=>?_,λb o h=>old (s.raw b o h),s.own,λt b lo n ht hk hn=>?_,s.tokLt,s.sep⟩
  · rw[World.cell?_of_block (w:=w) (hb.block b (s.imm_lt hv))];exact s.imm b o v hv
  · obtain⟨vs,hv,hr⟩:=s.box b T cs h;exact⟨vs,hv.same old,hr⟩
  · obtain⟨en,cl,hv,hr⟩:=s.map b es h;exact⟨en,cl,old hv,hr⟩
  obtain⟨h1,h2,h3,c,T,h4,h5⟩:=s.tok t b lo n ht hk hn;exact⟨h1,h2,h3,c,T,old h4,h5⟩
end
section
structure MRow (N:Nat→Prop) (H:Heap) (a:Option Addr) (xs:List Int) (c:Nat):Prop where
  cap:xs.length≤c
  max:c≤maxLen
  form:(a=none∧c=0)∨∃b,a=some ⟨b,0,none⟩
  at_:xs=[]∨∃b T cs,a=some ⟨b,0,none⟩∧N b∧H.objs b=some (.box T cs)∧cs.take xs.length=xs.map (.int .i64)
theorem MRow.mono{N N':Nat→Prop}{H H':Heap}{a:Option Addr}{xs:List Int}{c:Nat}(h:MRow N H a xs c)(hl:H.le H')(hn:∀b,N b→N' b):MRow N' H' a xs c:=
  ⟨h.cap,h.max,h.form,h.at_.imp id λ⟨b,T,cs,h1,h2,h3,h4⟩=>⟨b,T,cs,h1,hn b h2,hl.objs _ _ h3,h4⟩⟩
def MSame(N:Nat→Prop)(a:Option Addr)(H H':Heap):Prop:=H'=H∨∃b T cs,a=some ⟨b,0,none⟩∧N b∧H'=H.set b (.box T cs)
theorem MSame.le{N:Nat→Prop}{a:Option Addr}{H0 H H':Heap}(h:MSame N a H H')(hl:H0.le H)(hn:∀b,N b→H0.objs b=none):H0.le H':=by
  rcases h with rfl|⟨b,T,cs,_,hb,rfl⟩
  · exact hl
  refine⟨λk x hx=>?_,λt ht=>hl.toks t ht⟩;have hk:k≠b:=by rintro rfl;rw[hn _ hb]at hx;cases hx
  rw[Heap.objs_set_ne _ _ hk];exact hl.objs _ _ hx
theorem MSame.objs{N:Nat→Prop}{a:Option Addr}{H H':Heap}(h:MSame N a H H'){k:Nat}(hk:¬N k):H'.objs k=H.objs k:=by
  rcases h with rfl|⟨b,T,cs,_,hb,rfl⟩
  · rfl
  exact Heap.objs_set_ne _ _ (by rintro rfl;exact hk hb)
theorem MSame.toks{N:Nat→Prop}{a:Option Addr}{H H':Heap}(h:MSame N a H H'):H'.toks=H.toks:=by
  rcases h with rfl|⟨b,T,cs,_,hb,rfl⟩<;>rfl
theorem Heap.set_self{H:Heap}{b:Nat}{x:AObj}(h:H.objs b=some x):H.set b x=H:=by
  cases H with
  |mk objs toks=>
    simp only[Heap.set,Heap.mk.injEq,and_true]
    funext k
    split
    · rename_i e;subst e;exact h.symm
    rfl
theorem Sat.ahead{g:G}{H:Heap}{w:World}(s:Sat g H w)(q:Nat):Sat g H (Sort.ahead w q):={
  below:=⟨s.below.os,s.below.tape,s.below.output,s.below.size,s.below.block⟩
  imm:=s.imm
  box:=s.box
  map:=s.map
  raw:=s.raw
  own:=s.own
  tok:=s.tok
  tokLt:=s.tokLt
  sep:=s.sep}
theorem Sat.holds{g:G}{H:Heap}{w:World}(s:Sat g H w){b:Nat}{T:TypeId}{cs:List AV}{xs:List Int}(hb:H.objs b=some (.box T cs))(hx:cs.take xs.length=xs.map (.int .i64)):Sort.Holds (Value.int .i64) w b 0 xs.toArray:=by
  obtain⟨vs,hw,hr⟩:=s.box b T cs hb;intro j hj;have hj':j<xs.length:=by simpa using hj
  have hc:cs[j]?=some (.int .i64 xs[j]):=by
    have:(cs.take xs.length)[j]?=(xs.map (AV.int .i64))[j]?:=by rw[hx]
    rw[List.getElem?_take,if_pos hj']at this;simpa[hj']using this
  obtain⟨v,hv,hrel⟩:=hr.at hc;cases hrel
  refine⟨?_,?_⟩
  · rw[hw.cell,Nat.zero_add];simpa[hj']using hv
  exact hw.thaw (by have:=(Array.getElem?_eq_some_iff.1 hv).1;omega)
theorem Sat.putRow{g:G}{H:Heap}{w:World}(s:Sat g H w){b:Nat}{T:TypeId}{cs:List AV}(hb:H.objs b=some (.box T cs))(ys:List Int)(hl:ys.length≤cs.length)(q:Nat):
    Sat g (H.set b (.box T (ys.map (.int .i64)++cs.drop ys.length))) (Sort.putRow (Value.int .i64) (Sort.ahead w q) b 0 ys.toArray):=by
  obtain⟨vs,⟨fz,hw,hth⟩,hr⟩:=s.box b T cs hb;refine(s.ahead q).turn hb (λk hk=>?_) (by simp[Sort.putRow,Sort.mapBlock,Sort.ahead]) rfl rfl rfl ⟨Sort.putCells (Value.int .i64) 0 ys.toArray vs,⟨fz,?_,by simpa[Sort.putCells]using hth⟩,?_⟩
  · show(w.heap.modify b _)[k]?=w.heap[k]?;rw[Array.getElem?_modify,if_neg (λh=>hk h.symm)]
  · show(w.heap.modify b _)[b]?=_;rw[Array.getElem?_modify,if_pos rfl,hw];rfl
  have hsz:=hr.1;refine⟨by simp[Sort.putCells];omega,λi c v hc hv=>?_⟩;simp only[Sort.putCells,Array.getElem?_mapIdx]at hv;rw[List.getElem?_append]at hc;simp only[List.length_map]at hc;by_cases hi:i<ys.length
  · rw[if_pos hi]at hc;have hc':c= .int .i64 ys[i]:=by simpa[hi]using hc.symm
    cases hvi:vs[i]? with
    |none=>rw[hvi]at hv;cases hv
    |some u=>
      rw[hvi]at hv;have hv':v= .int .i64 ys[i]:=by simpa[hi]using hv.symm
      subst hc';subst hv';exact .int _ _
  rw[if_neg hi,List.getElem?_drop,show ys.length+(i-ys.length)=i by omega]at hc;cases hvi:vs[i]? with
  |none=>rw[hvi]at hv;cases hv
  |some u=>
    rw[hvi]at hv;have hv':v=u:=by simpa[hi]using hv.symm
    subst hv';exact hr.2 i c v hc hvi
section
variable{P:Program}{env:Env}{H:Heap}{dst:Option Tmp}{ty:TypeId}{pos:String}{af:Array Edge}{gd:Option (Nat×Bool)}
end
end
section
section
variable{P:Program}{env:Env}{H:Heap}{dst:Option Tmp}{ty:TypeId}{pos:String}{af:Array Edge}{gd:Option (Nat×Bool)}
theorem pure_fieldV1{S:TypeId}{fs:Array Field}{f k:Nat}{fd:Field}{x:Operand}{cs:List AV}{c:AV}(hu:P.underlying S=some (.struct fs))(hf:fs[f]?=some fd)(ha:∀w,(isAgg fd.type).run P w= .ok false w)(_hs:∀w,(sizeOf fd.type).run P w= .ok k w)
    (hx:Ev env x (.agg cs))(hc:cs[fd.offset]?=some c):APure P ⟨dst,.field S x f,ty,pos,af,gd⟩ env c:=by
  intro g n a ka;obtain⟨v,he,hv⟩:=ev1 hx ka;obtain⟨vs,rfl,hr⟩:=hv.cells_agg;obtain⟨u,hu',hrel⟩:=hr.at hc;have hlt:fd.offset<vs.size:=(Array.getElem?_eq_some_iff.1 hu').1;refine⟨u,hrel,λw _=>?_⟩;simp[execOp,he,Instr.field,underlying,hu,hf,asAgg,part,ha,hu']
theorem fillA_row{sz:Nat}:∀(qs:List (Nat×AV))(k:Nat)(cs:List AV),qs.map (·.1)=List.range' k qs.length→(∀q,q∈qs→q.2.row sz)→cs.length=(k+qs.length)*sz→
    fillA (λi=>some (i*sz,sz)) cs qs=some (cs.take (k*sz)++(qs.map (·.2)).flatMap AV.cells)
  | [],k,cs,_,_,hl=>by
    simp only[List.length_nil,Nat.add_zero]at hl;simp only[fillA,List.map_nil,List.flatMap_nil,List.append_nil];rw[List.take_of_length_le (by omega)]
  |(i,x)::qs,k,cs,hi,hr,hl=>by
    simp only[List.map_cons,List.length_cons,List.range'_succ,List.cons.injEq]at hi;obtain⟨rfl,hi⟩:=hi;have hx:=(hr (i,x) (by simp)).1;simp only at hx;simp only[List.length_cons]at hl;have e1:(i+(qs.length+1))*sz=i*sz+sz+qs.length*sz:=by rw[Nat.add_mul,Nat.add_mul,Nat.one_mul];omega
    simp only[fillA];rw[if_pos ⟨hx,by omega⟩];rw[fillA_row qs (i+1) _ hi (λq hq=>hr q (by simp[hq])) (by simp only[putRow,List.length_append,List.length_take,List.length_drop];rw[hx,show(i+1+qs.length)*sz=i*sz+sz+qs.length*sz by rw[Nat.add_mul,Nat.add_mul,Nat.one_mul]];omega)];have e2:(i+1)*sz=i*sz+sz:=by rw[Nat.add_mul,Nat.one_mul]
    simp only[putRow,List.map_cons,List.flatMap_cons];rw[List.take_append_of_le_length (by simp;omega),List.take_of_length_le (by simp;omega)];simp
theorem Parts.idx{env:Env}{ps:List (Nat×Operand)}{qs:List (Nat×AV)}(h:Parts env ps qs):qs.map (·.1)=ps.map (·.1)∧qs.length=ps.length:=by
  induction h with
  |nil=>exact⟨rfl,rfl⟩
  |cons _ _ _ ih=>exact⟨by simp[ih.1],by simp[ih.2]⟩
theorem step_bsN{T E:TypeId}{len sz:Nat}{z:Value}{ops:List (Nat×Operand)}{qs:List (Nat×AV)}(hu:P.underlying T=some (.slice E))(hs:∀w,(sizeOf E).run P w= .ok sz w)(hz:∀w,(zeroValue E).run P w= .ok z w)
    (hsz:Nat.ble (len*sz) 16777216=true)(hln:Nat.ble len 16777216=true)(hi:ops.map (·.1)=List.range' 0 len)(hq:Parts env ops qs)(hr:∀q,q∈qs→q.2.row sz):
    AStep P ⟨dst,.buildSlice T len ops.toArray,ty,pos,af,gd⟩ env H (λy H'=>y= .slice sz (qs.map (·.2)) .full∧H'=H):=by
  have hlen:ops.length=len:=by have:=congrArg List.length hi;simpa using this
  obtain⟨h1,h2⟩:=hq.idx;refine step_buildSlice (xs:=qs.map (·.2)) hu hs hz (λg=>range_raw g _ _) hsz hln hq (λx hx=>?_) (by simp;omega) ?_
  · obtain⟨q,hq',rfl⟩:=List.mem_map.1 hx;exact hr q hq'
  rw[fillA_row qs 0 _ (by rw[h1,hi,h2,hlen]) hr (by simp;rw[h2,hlen])];simp
theorem rowq_n{sz:Nat}:∀q,q∈([]:List (Nat×AV))→q.2.row sz:=λq hq=>by simp at hq
theorem rowq_c{sz i:Nat}{x:AV}{qs:List (Nat×AV)}(h:x.row sz)(k:∀q,q∈qs→q.2.row sz):∀q,q∈(i,x)::qs→q.2.row sz:=λq hq=>by
  rcases List.mem_cons.1 hq with rfl|h'
  · exact h
  exact k q h'
end
end
end Go.Proofs.YtojblnldfdeefaaGreatDoor
namespace Go.Proofs.YtojblnldfdeefaaGreatDoor
open Go Go.RowKit
section
section
variable{P:Program}{n:Fr}{ops:Array Oper}{Q:Exit→Env→Heap→Prop}{env:Env}{H:Heap}{l:List Oper}{op:Op}{ty:TypeId}{pos:String}{af:Array Edge}{x:AV}
theorem tm{t:Tmp}(h:Env.get? env t=some x):Ev env (.tmp t) x:=.tmp _ _ h
theorem evs1{a:Tmp}{x:AV}(h:Env.get? env a=some x):Evs env [.tmp a] [x]:=.cons (tm h) .nil
theorem evs2{a b:Tmp}{x y:AV}(h:Env.get? env a=some x)(k:Env.get? env b=some y):Evs env [.tmp a,.tmp b] [x,y]:=.cons (tm h) (evs1 k)
theorem evs3{a b c:Tmp}{x y z:AV}(h:Env.get? env a=some x)(k:Env.get? env b=some y)(m:Env.get? env c=some z):Evs env [.tmp a,.tmp b,.tmp c] [x,y,z]:=.cons (tm h) (evs2 k m)
theorem AList.mv{d t:Tmp}(hd:Nat.blt d n.size=true)(h:Env.get? env t=some x)(k:AList P n ops Q l ((d,x)::env) H):AList P n ops Q (⟨some d,.move (.tmp t),ty,pos,af,none⟩::l) env H:=
  AList.p hd (pure_move (tm h)) k
theorem AList.as{d t:Tmp}(hd:Nat.blt d n.size=true)(h:Env.get? env t=some x)(k:AList P n ops Q l ((d,x)::env) H):AList P n ops Q (⟨some d,.assign (.tmp t),ty,pos,af,none⟩::l) env H:=
  AList.p hd (pure_assign (tm h)) k
theorem AList.e{d:Tmp}{H':Heap}(hd:Nat.blt d n.size=true)(h:AStep P ⟨some d,op,ty,pos,af,none⟩ env H (λy K=>y=x∧K=H'))(k:AList P n ops Q l ((d,x)::env) H'):AList P n ops Q (⟨some d,op,ty,pos,af,none⟩::l) env H:=
  AList.s hd h λ_ _ ⟨e1,e2⟩=>by subst e1;subst e2;exact k
theorem AList.e0{H':Heap}(h:AStep P ⟨none,op,ty,pos,af,none⟩ env H (λy K=>y=x∧K=H'))(k:AList P n ops Q l env H'):AList P n ops Q (⟨none,op,ty,pos,af,none⟩::l) env H:=
  AList.s0 h λ_ _ ⟨e1,e2⟩=>by subst e1;subst e2;exact k
theorem AList.cl{d:Tmp}{f:FuncId}{os:Array Operand}{xs:List AV}{ts:Array TypeId}(hd:Nat.blt d n.size=true)(hent:∀args w,(callFunc f args).run P w= .ok (.enter f args) w)(ha:Evs env os.toList xs)(h:ACall P f xs H (λy K=>y=x∧K=H))
    (k:AList P n ops Q l ((d,x)::env) H):AList P n ops Q (⟨some d,.call {callee:=.value (.func f),args:=os,argTypes:=ts},ty,pos,af,none⟩::l) env H:=
  AList.e hd (step_call0 hent ha h) k
theorem AWP.sr{id:Nat}{y:Code}(h:AList P n l.toArray (Next.q (AWP P n y Q) Q) l env H):AWP P n (.seq (.region id l.toArray false) y) Q env H:=AWP.seq (AWP.region h)
theorem AList.ng{N:Env→Heap→Prop}(h:N env H):AList P n ops (Next.q N Q) [] env H:=AList.nil (Next.go h)
theorem AList.nr{id:Nat}{Q':Exit→Env→Heap→Prop}{l':List Oper}{y:Code}(h:AList P n l'.toArray (Next.q (AWP P n y Q') Q') l' env H):AList P n ops (Next.q (AWP P n (.seq (.region id l'.toArray false) y) Q') Q) [] env H:=AList.ng (AWP.sr h)
theorem AWP.cd{t:Tmp}{a b:Code}{p:Prop}[Decidable p](hc:Env.get? env t=some (.bool (decide p)))(ht:p→AWP P n a Q env H)(hf:¬p→AWP P n b Q env H):AWP P n (.cond (.tmp t) a b) Q env H:=
  AWP.cond (tm hc) (λh=>ht (of_decide_eq_true h)) (λh=>hf (of_decide_eq_false h))
end
end
end Go.Proofs.YtojblnldfdeefaaGreatDoor
