/-
  A row that the library has made gets a name; the numbers from 0 on, collected: a call whose contract is known.
-/
import Derived.Test.YtojblnldfdeefaaGreatDoorK1
import Derived.RangeFuncBox
import Derived.RangeFuncLeaves
import Derived.Shelf.Abstract
import Derived.Shelf.SlIterI.Collect
import Derived.OwnWalkIn
import Derived.TacticsInMore
import Derived.LoopNIn
import Derived.LoopIn
import Derived.Shelf.Spec.SearchS
namespace Go.Proofs.YtojblnldfdeefaaGreatDoor.Cc
open Go Go.RowKit Go.Shelf Go.Maps
set_option maxRecDepth 100000
theorem Sat.newRO{g:G}{H:Heap}{w w':World}(h0:Sat g H w)(hk:Grow w w')(b k:Nat){x:O}(hown:x.own=false)(hbase:w.heap.size≤b)(hlt:b<w'.heap.size)(hb:g.bn H.nn=false)
    (hx:ObjAt (g.name H.nn b k hb) w' H.nn x):Sat (g.name H.nn b k hb) (H.new x) w':=by
  have h:=h0.grows hk;have hle:=G.le_name g H.nn b k hb;have get:∀m,(H.new x).get m=if m=H.nn then some x else H.get m:=λm=>Tr.get_set _ _ _ _
  have hg:(H.new x).nn=H.nn+1:=rfl;have hnm:(g.name H.nn b k hb).nm H.nn=b:=by simp[G.name]
  refine{keep:=by have:=h.keep;rw[←hle.base]at this;exact this,fresh:=λn hn=>?_,dom:=λn y hn=>?_,bn:=λn hn=>?_,at_:=λn y hn=>?_,own:=λn y hn ho=>?_,lt:=λn y hn=>?_,inj:=λn n' y y' hn hn' ho hy=>?_,con:=λm y hm=>?_}
  · rw[get,if_neg (by rw[hg]at hn;omega)];exact h.fresh n (by rw[hg]at hn;omega)
  · rw[get]at hn;by_cases e:n=H.nn
    · subst e;simp[G.name]
    rw[if_neg e]at hn;exact hle.bn n (h.dom n y hn)
  · rw[get];by_cases e:n=H.nn
    · rw[if_pos e];exact⟨_,rfl⟩
    rw[if_neg e];have:g.bn n=true:=by
      have hn':(Nat.beq n H.nn||g.bn n)=true:=hn;simp only[Bool.or_eq_true,Nat.beq_eq]at hn';exact hn'.resolve_left e
    exact h.bn n this
  · rw[get]at hn;by_cases e:n=H.nn
    · rw[if_pos e]at hn;cases hn;subst e;exact hx
    rw[if_neg e]at hn;exact(h.at_ n y hn).mono hle (h.dom n y hn) (.inr rfl)
  · rw[get]at hn;by_cases e:n=H.nn
    · rw[if_pos e]at hn;cases hn;rw[hown]at ho;cases ho
    rw[if_neg e]at hn;have:=h.own n y hn ho;rw[hle.nm n (h.dom n y hn),hle.base];exact this
  · rw[get]at hn;by_cases e:n=H.nn
    · subst e;rw[hnm];exact .inr hlt
    rw[if_neg e]at hn;rw[hle.nm n (h.dom n y hn)];exact h.lt n y hn
  · rw[get]at hn hn';by_cases e:n=H.nn
    · rw[if_pos e]at hn;cases hn;rw[hown]at ho;cases ho
    rw[if_neg e]at hn;by_cases e':n'=H.nn
    · intro hq;subst e';rw[hnm,hle.nm n (h.dom n y hn)]at hq;rcases h0.lt n y hn with rfl|h2
      · cases ho
      omega
    rw[if_neg e']at hn';intro hq;rw[hle.nm n (h.dom n y hn),hle.nm n' (h.dom n' y' hn')]at hq;exact h.inj n n' y y' hn hn' ho hy hq
  have hm':=h.con m y (by rw[←hle.ng];exact hm);rw[get];by_cases e:m=H.nn
  · have:=h.fresh m (by omega);rw[this]at hm';cases hm'
  rw[if_neg e];exact hm'
def collect_ren:Go.Shelf.Ren:=⟨fun|8=>386|11=>434|n=>n,fun|0=>0|24=>30|26=>3|28=>426|33=>142|n=>n,fun|n=>n⟩
theorem collectL:Go.Proofs.SlLaysZI.n8 Tryz.prog collect_ren:={
  mixed:=by kernel_rfl
  f8:=⟨Tryz.f386.name,by decide,Tryz.func386.trans (congrArg some (by kernel_rfl))⟩
  f11:=⟨Tryz.f434.name,by decide,Tryz.func434.trans (congrArg some (by kernel_rfl))⟩
  t0:=Tryz.underlying0
  a0:=Tryz.isAgg0
  z0:=Tryz.sizeOf0
  v0:=Tryz.zeroValue0
  t24:=Tryz.underlying30
  a24:=Tryz.isAgg30
  z24:=Tryz.sizeOf30
  v24:=Tryz.zeroValue30
  t26:=Tryz.underlying3
  a26:=Tryz.isAgg3
  z26:=Tryz.sizeOf3
  v26:=Tryz.zeroValue3
  t28:=Tryz.underlying426
  a28:=Tryz.isAgg426
  z28:=Tryz.sizeOf426
  v28:=Tryz.zeroValue426
  i26:=by kernel_rfl}
def intOfV:Value→Int
  | .int _ q=>q
  |_=>0
def uptoZ(n:Nat):List Int:=(List.range n).map λi:Nat=>(i:Int)
theorem uptoZ_s(k:Nat):uptoZ (k+1)=uptoZ k++[(k:Int)]:=by simp[uptoZ,List.range_succ]
theorem uptoZ_len(k:Nat):(uptoZ k).length=k:=by simp[uptoZ]
attribute [local go_sem] Oper.semAt_some
set_option maxHeartbeats 2000000 in
theorem idx1_in(F:Fence)(n:Nat)(hn:1≤n)(h7:F.fn 435)(hro:F.round=none)(l Bs off N:Nat)(hN:N≤1000)(J:List Int→World→Prop)
    (hY:∀pre x W,J pre W→pre.length<N→YieldAt F (n-1) Tryz.prog l #[.int .i64 x] W λe W'=>e= .returned (.bool true)∧J (pre++[x]) W'∧KeepsWalks W W')
    (W:World)(hBs:W.cell? ⟨Bs,off,none⟩=some (.int .i64 (N:Int)))(h0:J [] W):
    CallsIn F n Tryz.prog 435 #[.func (.yield l) #[] #[],.pointer (some ⟨Bs,off,none⟩)] W λe W'=>(∃v,e= .returned v)∧∃ys,ys=uptoZ N∧J ys W':=by
  refine callsIn_of_wp Tryz.func435 rfl h7 ?_ hro;simp only[Tryz.ntmps435,List.size_toArray,List.length_cons,List.length_nil,Nat.reduceAdd,Nat.reduceSub,Array.replicate_succ,Array.replicate_zero,List.push_toArray,List.append_toArray,List.nil_append,List.cons_append]
  gi_wp2
  gi_loopw [5] (λi wr=>∃k:Nat,k≤N∧i= .int .i64 k∧J (uptoZ k) wr) (λi _=>N-(intOfV i).toNat)
  case atStart=>exact⟨0,Nat.zero_le _,rfl,h0⟩
  case round=>
    obtain⟨k,hk,rfl,hJs⟩:=hrel;by_cases hlt:k<N
    · obtain⟨fn,tmps,assign,body,hy,hR⟩:=hY _ (k:Int) wr hJs (by rw[uptoZ_len];exact hlt)
      gi_wp2
      refine hR.mono ?_;rintro e W3 ⟨rfl,hJ3,_⟩
      gi_wp2
      go_roundw
      case rel=>exact⟨k+1,by omega,by simp,by rw[uptoZ_s];exact hJ3⟩
      case measure=>simp[intOfV];omega
    obtain rfl:k=N:=by omega
    gi_wp2
    go_end0
    exact⟨⟨_,rfl⟩,_,rfl,hJs⟩
theorem idx1_gives(F:Fence)(n:Nat)(hn:1≤n)(h7:F.fn 435)(hro:F.round=none)(Bs off N:Nat)(hN:N≤1000)(w:World)(hl:Bs<w.heap.size)(hBs:w.cell? ⟨Bs,off,none⟩=some (.int .i64 (N:Int))):
    SeqGives F n Tryz.prog 435 #[.pointer (some ⟨Bs,off,none⟩)] encZ (λys=>ys=uptoZ N) N w:=λl J W hW _ hY h0=>
  idx1_in F n hn h7 hro l Bs off N hN J hY W ((hW.cell (p:=⟨Bs,off,none⟩) hl).trans hBs) h0
noncomputable def runColl(xs:List V)(H:Heap):Option (V×Heap):=
  match xs with
  | [.func f [.ptr q 0]]=>cond (Nat.beq f 435) (match objCells H q with
    |some [.int .i64 (.ofNat N)]=>cond (Nat.ble N 1000&&Nat.blt 0 N) (some (.sl 1 H.nn 0 N,H.new (.cells 3 ((uptoZ N).map (V.int .i64)) false true))) none
    |_=>none) none
  |_=>none
theorem coll_ok{xs:List V}{H H':Heap}{r:V}(h:runColl xs H=some (r,H')):OCall P ng0 386 xs H r H':=by
  unfold runColl at h;split at h<;>first|(cases h;done)|skip
  rename_i f q
  obtain⟨hf,h⟩:=cond_if h;have:=Nat.eq_of_beq_eq_true hf;subst this;split at h<;>first|(cases h;done)|skip
  rename_i N hq
  cases hb:(Nat.ble N 1000&&Nat.blt 0 N)with
  |false=>rw[hb]at h;cases h
  |true=>
  rw[hb]at h;cases h
  simp only[Bool.and_eq_true]at hb;have hN:=Nat.le_of_ble_eq_true hb.1;have hN0:0<N:=by simpa[Nat.blt_eq]using hb.2
  refine .inl ⟨λg vs w hg hr hs=>?_,enters noNG Tryz.func386 rfl⟩;obtain⟨v1,us,rfl,r1,hr⟩:=hr.cons;cases hr.nil
  cases r1 with
  |func f cs us hn hrr=>
  have hu:us.size=1:=hn.symm;obtain⟨u,rfl⟩:=Array.size_eq_one_iff.1 hu;have hp:=hrr 0 _ _ rfl rfl;cases hp with
  |ptr n o hbn=>
  obtain⟨cs,fz,T,hcell,hl,hrc⟩:∃(vs:Array Value)(fz:Nat×Nat)(T:TypeId),w.heap[g.nm q]?=some (.cells vs T fz)∧([V.int .i64 (.ofNat N)]:List V).length≤vs.size∧RelCells g [V.int .i64 (.ofNat N)] (vs.extract 0 ([V.int .i64 (.ofNat N)]:List V).length):=by
    obtain⟨T,ex,ro,_,_,vs,fz,⟨T',e1,_⟩,_,_,e4,_,e6⟩:=objCells_spec hs hq;exact⟨vs,fz,T',e1,e4,e6⟩
  have hc:w.cell? ⟨g.nm q,0,none⟩=some (.int .i64 (N:Int)):=by
    obtain⟨v,hv,hrv⟩:=RelCells.at0 hl hrc (i:=0) rfl;cases hrv
    exact cell_of hcell hv
  have hlt:=World.block_lt_of_cell? w _ hc;have hseq:=idx1_gives Fence.wide 3 (by omega) trivial rfl (g.nm q) 0 N hN w hlt hc;have fin:=AnyZI.collect_in collectL Fence.wide 5 trivial trivial rfl (by omega) 435 #[.pointer (some ⟨g.nm q,0,none⟩)] trivial (enters noNG Tryz.func435 rfl) _ N (by unfold maxLen;omega) (by omega) w hseq;refine(callsIn_wide.1 fin).mono ?_;rintro e w' ⟨v,ss,rfl,rfl,hrow,_,hbl⟩;have hgrow:Grow w w':=⟨hbl.os,hbl.tape,hbl.output,hbl.size,hbl.block⟩;obtain⟨hlen,⟨rfl,h0⟩|⟨b,cap,cur,rfl,hbase,hw,hcap,hmax,hcur,hx⟩⟩:=hrow
  · rw[uptoZ_len]at h0;omega
  rw[uptoZ_len]at hcap hx;have hfree:g.bn H.nn=false:=by
    cases hbn:g.bn H.nn with
    |false=>rfl
    |true=>obtain⟨x,hx⟩:=hs.bn _ hbn;rw[hs.fresh _ (Nat.le_refl _)]at hx;cases hx
  have hblt:b<w'.heap.size:=(Array.getElem?_eq_some_iff.1 hw).1;have hle:=G.le_name g H.nn b cur.size hfree;refine⟨_,rfl,g.name H.nn b cur.size hfree,hle,?_,hs.newRO hgrow b cur.size rfl hbase hblt hfree ?_⟩
  · rw[uptoZ_len];have:=RelV.sl (g:=g.name H.nn b cur.size hfree) 1 H.nn 0 N cap (by simp[G.name]) (by simp[G.name];omega) hcap hmax;simpa[G.name]using this
  have hnm:(g.name H.nn b cur.size hfree).nm H.nn=b:=by simp[G.name]
  have hvs:(g.name H.nn b cur.size hfree).vs H.nn=cur.size:=by simp[G.name]
  have hll:((uptoZ N).map (V.int .i64)).length=N:=by rw[List.length_map,uptoZ_len]
  refine⟨cur,(0,0),⟨_,by rw[hnm];exact hw,λe=>(by cases e)⟩,λe=>(by cases e),hvs.symm,(by rw[hll];omega),λe=>(by cases e),?_⟩;refine⟨by simp[uptoZ_len];omega,λi c v hc hv=>?_⟩;have hi:i<N:=by
    have:=(List.getElem?_eq_some_iff.1 hc).1;simpa[uptoZ_len]using this
  have h1:(cur.toList.take (N*1))[i]?=((uptoZ N).map encZ)[i]?:=by rw[hx]
  rw[List.getElem?_take,if_pos (by omega),List.getElem?_map]at h1;simp only[List.length_map,uptoZ_len,Array.getElem?_extract]at hv;rw[List.getElem?_map]at hc;cases hz:(uptoZ N)[i]? with
  |none=>rw[hz]at hc;cases hc
  |some z=>
    rw[hz]at hc h1;cases hc
    split at hv
    · simp only[Nat.zero_add]at hv;rw[show cur.toList[i]?=cur[i]? by simp,hv]at h1;cases h1
      exact .int _ _
    cases hv
noncomputable def hColl:Handler P ng0 where
  f:=386
  is xs:=match xs with| [.func f [.ptr _ 0]]=>Nat.beq f 435|_=>false
  run _ xs H:=runColl xs H
  ok _ _ _ xs H r H' _ h:=coll_ok h
  ext _ _ xs H r H' X H2 _ h k:=by
    unfold runColl at h ⊢;split at h<;>first|(cases h;done)|skip
    rename_i f q
    obtain⟨hf,h⟩:=cond_if h;simp only[hf,cond_true];split at h<;>first|(cases h;done)|skip
    rename_i N hq
    cases hb:(Nat.ble N 1000&&Nat.blt 0 N)with
    |false=>rw[hb]at h;cases h
    |true=>
    rw[hb]at h;cases h
    rw[k.cells hq];simp only[hb,cond_true];exact⟨_,by rw[k.nn],k.new _⟩
end Go.Proofs.YtojblnldfdeefaaGreatDoor.Cc
namespace Go.Proofs.YtojblnldfdeefaaGreatDoor.Cc
open Go Go.RowKit Go.Shelf
def less_ren:Go.Shelf.Ren:=⟨fun|26=>21|33=>28|34=>29|38=>59|n=>n,fun|24=>38|40=>73|n=>n,fun|n=>n⟩
theorem lessL:Go.Proofs.Lays2.n33 Tryz.prog less_ren:={
  mixed:=by kernel_rfl
  f33:=Tryz.func28.trans (congrArg some (by kernel_rfl))
  f38:=Tryz.func59.trans (congrArg some (by kernel_rfl))
  t4:=Tryz.underlying4
  a4:=Tryz.isAgg4
  z4:=Tryz.sizeOf4
  v4:=Tryz.zeroValue4
  t9:=Tryz.underlying9
  a9:=Tryz.isAgg9
  z9:=Tryz.sizeOf9
  v9:=Tryz.zeroValue9}
theorem searchL:Go.Proofs.Lays2.n26 Tryz.prog less_ren:={
  mixed:=by kernel_rfl
  f26:=Tryz.func21.trans (congrArg some (by kernel_rfl))
  f33:=Tryz.func28.trans (congrArg some (by kernel_rfl))
  f34:=Tryz.func29.trans (congrArg some (by kernel_rfl))
  f38:=Tryz.func59.trans (congrArg some (by kernel_rfl))
  t0:=Tryz.underlying0
  a0:=Tryz.isAgg0
  z0:=Tryz.sizeOf0
  v0:=Tryz.zeroValue0
  t3:=Tryz.underlying3
  a3:=Tryz.isAgg3
  z3:=Tryz.sizeOf3
  v3:=Tryz.zeroValue3
  t4:=Tryz.underlying4
  a4:=Tryz.isAgg4
  z4:=Tryz.sizeOf4
  v4:=Tryz.zeroValue4
  t9:=Tryz.underlying9
  a9:=Tryz.isAgg9
  z9:=Tryz.sizeOf9
  v9:=Tryz.zeroValue9
  t24:=Tryz.underlying38
  a24:=Tryz.isAgg38
  z24:=Tryz.sizeOf38
  v24:=Tryz.zeroValue38
  t40:=Tryz.underlying73
  a40:=Tryz.isAgg73
  z40:=Tryz.sizeOf73
  v40:=Tryz.zeroValue73}
def runLess:List V→Option V
  | [.str a,.str b]=>some (.bool (Op.bytesLess a b))
  |_=>none
theorem less_ok{xs:List V}{H H':Heap}{r:V}(h:(match runLess xs with|some r=>some (r,H)|none=>none)=some (r,H')):OCall P ng0 28 xs H r H':=by
  split at h<;>first|(cases h;done)|skip
  rename_i y hy
  cases h
  unfold runLess at hy;split at hy<;>first|(cases hy;done)|skip
  rename_i a b
  cases hy
  refine .inl ⟨λg vs w hg hr hs=>?_,enters noNG Tryz.func28 rfl⟩;obtain⟨v1,us,rfl,r1,hr⟩:=hr.cons;obtain⟨v2,us,rfl,r2,hr⟩:=hr.cons;cases hr.nil
  cases r1 with
  |str a q1=>
  cases r2 with
  |str b q2=>
  refine Calls.mono (Go.Proofs.Any2.cmp_Less_string lessL ⟨a.toArray⟩ ⟨b.toArray⟩ w) ?_;rintro e w' ⟨rfl,rfl⟩;refine⟨_,rfl,g,G.le.refl g,?_,hs⟩;rw[Lib.toList_data,Lib.toList_data];exact .bool _
def hLess:Handler P ng0 where
  f:=28
  is xs:=match xs with| [.str _,.str _]=>true|_=>false
  run _ xs H:=match runLess xs with|some r=>some (r,H)|none=>none
  ok _ _ _ xs H r H' _ h:=less_ok h
  ext _ _ xs H r H' X H2 _ h k:=by
    split at h<;>first|(cases h;done)|skip
    rename_i y hy
    cases h
    exact⟨H2,rfl,k⟩
def strs:List V→Option (List (List UInt8))
  | []=>some []
  | .str s::l=>match strs l with|some r=>some (s::r)|none=>none
  |_=>none
theorem strs_get:∀{cs:List V}{ss:List (List UInt8)},strs cs=some ss→ss.length=cs.length∧∀(i:Nat)(s:List UInt8),ss[i]?=some s→cs[i]?=some (V.str s)
  | [],ss,h=>by cases h;exact⟨rfl,λi s h=>by simp at h⟩
  |c::cs,ss,h=>by
    cases c<;>simp only[strs]at h<;>first|(cases h;done)|skip
    rename_i t
    split at h<;>first|(cases h;done)|skip
    rename_i r hr
    cases h
    obtain⟨h1,h2⟩:=strs_get hr;refine⟨by simp[h1],λi s hs=>?_⟩;cases i with
    |zero=>simp at hs;subst hs;rfl
    |succ i=>exact h2 i s (by simpa using hs)
noncomputable def runBS(xs:List V)(H:Heap):Option V:=
  match xs with
  | [.sl 1 q 0 n,.str x]=>match objCells H q with
    |some cs=>match strs cs with
      |some ss=>cond (Nat.beq ss.length n&&Nat.blt n 1000) (some (.tuple [.int .i64 (.ofNat (Lib.bsGo (λt=>Op.bytesLess (ss.getD t []) x) n 0 n)),.bool (decide (Lib.bsGo (λt=>Op.bytesLess (ss.getD t []) x) n 0 n<n∧ss.getD (Lib.bsGo (λt=>Op.bytesLess (ss.getD t []) x) n 0 n) []=x))])) none
      |none=>none
    |none=>none
  |_=>none
theorem bs_ok{xs:List V}{H H':Heap}{r:V}(h:(match runBS xs H with|some r=>some (r,H)|none=>none)=some (r,H')):OCall P ng0 21 xs H r H':=by
  split at h<;>first|(cases h;done)|skip
  rename_i y hy
  cases h
  unfold runBS at hy;split at hy<;>first|(cases hy;done)|skip
  rename_i q n x
  split at hy<;>first|(cases hy;done)|skip
  rename_i cs hq
  split at hy<;>first|(cases hy;done)|skip
  rename_i ss hss
  cases hb:(Nat.beq ss.length n&&Nat.blt n 1000)with
  |false=>rw[hb]at hy;cases hy
  |true=>
  rw[hb]at hy;cases hy
  simp only[Bool.and_eq_true]at hb;have hn:=Nat.eq_of_beq_eq_true hb.1;have hn2:n<1000:=by simpa[Nat.blt_eq]using hb.2
  refine .inl ⟨λg vs w hg hr hs=>?_,enters noNG Tryz.func21 rfl⟩;obtain⟨v1,us,rfl,r1,hr⟩:=hr.cons;obtain⟨v2,us,rfl,r2,hr⟩:=hr.cons;cases hr.nil
  cases r1 with
  |sl sz m o len cap hbn hv hl hc=>
  cases r2 with
  |str x q2=>
  obtain⟨T,ex,ro,_,_,vs,fz,⟨T',e1,_⟩,_,_,e4,_,e6⟩:=objCells_spec hs hq;obtain⟨h1,h2⟩:=strs_get hss;have hcell:∀j,j<n→w.cell? ⟨g.nm q,0+j,none⟩=some (.string ⟨(ss.getD j []).toArray⟩):=λj hj=>by
    have hs1:ss[j]?=some (ss.getD j []):=by
      rw[List.getD_eq_getElem?_getD,List.getElem?_eq_getElem (show j<ss.length by omega)];rfl
    obtain⟨v,hv1,hv2⟩:=RelCells.at0 e4 e6 (h2 j _ hs1);rw[Nat.zero_add];generalize ss.getD j []=z at *;cases hv2
    exact cell_of e1 hv1
  refine Calls.mono (Go.Proofs.Any2.slices_BinarySearch_string searchL (g.nm q) 0 n cap (λj=>⟨(ss.getD j []).toArray⟩) ⟨x.toArray⟩ w (by omega) hcell) ?_;rintro e w' ⟨rfl,k,rfl⟩;simp only[Lib.toList_data];have eq1:∀a b:List UInt8,((⟨a.toArray⟩:ByteArray)=⟨b.toArray⟩)=(a=b):=λa b=>by simp
  refine⟨_,rfl,g,G.le.refl g,?_,hs.grows ⟨rfl,rfl,rfl,Nat.le_refl _,λ_ _=>rfl⟩⟩;simp only[eq1];exact RelV.two (.int _ _) (.bool _)
noncomputable def hBS:Handler P ng0 where
  f:=21
  is xs:=match xs with| [.sl 1 _ 0 _,.str _]=>true|_=>false
  run _ xs H:=match runBS xs H with|some r=>some (r,H)|none=>none
  ok _ _ _ xs H r H' _ h:=bs_ok h
  ext _ _ xs H r H' X H2 _ h k:=by
    split at h<;>first|(cases h;done)|skip
    rename_i y hy
    cases h
    have:runBS xs H2=some r:=by
      unfold runBS at hy ⊢;split at hy<;>first|(cases hy;done)|skip
      rename_i q n x e
      cases hq:objCells H q with
      |none=>rw[hq]at hy;cases hy
      |some cs=>rw[hq]at hy;rw[k.cells hq];exact hy
    rw[this];exact⟨H2,rfl,k⟩
end Go.Proofs.YtojblnldfdeefaaGreatDoor.Cc
