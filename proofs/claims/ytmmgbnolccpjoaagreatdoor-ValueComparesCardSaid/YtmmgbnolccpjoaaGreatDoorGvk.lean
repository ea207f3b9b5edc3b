import Derived.Test.YtmmgbnolccpjoaaGreatDoorGhk
namespace Go.Proofs.YtmmgbnolccpjoaaGreatDoor
open Go.Proofs.Tryz
open Go Go.ChangeShapes Go.WideShapes Go.ChangeAt Go.RowKit
set_option maxRecDepth 100000
theorem wf64{n:Int}(h:(Lit.int .u64 n).wf=true):0≤n∧n<18446744073709551616:=by
 simp[Lit.wf,IntKind.min,IntKind.max,IntKind.bits,IntKind.signed]at h;omega
theorem wfi64{n:Int}(h:(Lit.int .i64 n).wf=true): -9223372036854775808≤n∧n≤9223372036854775807:=by
 simp[Lit.wf,IntKind.min,IntKind.max,IntKind.bits,IntKind.signed]at h;omega
theorem cellOfV:prog.cellsOf 24=5:=by kernel_rfl
theorem cellOfI:prog.cellsOf 3=1:=by kernel_rfl
theorem cellOfU:prog.cellsOf 22=1:=by kernel_rfl
theorem cellOfB:prog.cellsOf 4=1:=by kernel_rfl
theorem cellOfS:prog.cellsOf 9=1:=by kernel_rfl
theorem bmM{W:World}{hI:Inv W}:Rd prog W hI 24 (λq:Val=>q.av) (λq=>q.bits<18446744073709551616∧q.text.length≤maxLen):=by
 intro H enc fuel x cs h;obtain⟨hl,hget⟩:=cbY (hI:=hI) U24 h;rw[cellOfV]at hl
 match cs,hl with
 | [c0,c1,c2,c3,c4],_=>
  obtain⟨a,_,hra⟩:=hget 0 _ rfl 0 1 rfl cellOfI (axR (hI:=hI) U3);obtain⟨b,hb,hrb⟩:=hget 1 _ rfl 1 1 rfl cellOfU (axR (hI:=hI) U22);obtain⟨c,_,hrc⟩:=hget 2 _ rfl 2 1 rfl cellOfB (ciI (hI:=hI) U4);obtain⟨d,hd,hrd⟩:=hget 3 _ rfl 3 1 rfl cellOfS (bdX (hI:=hI) U9);obtain⟨e,_,hre⟩:=hget 4 _ rfl 4 1 rfl cellOfI (axR (hI:=hI) U3);have hb:=wf64 hb;obtain⟨n,rfl⟩:=Int.eq_ofNat_of_zero_le hb.1;exact⟨⟨a,n,c,d,e⟩,⟨by show n<_;omega,hd⟩,RelCells.pieces (n:=1) hra (RelCells.pieces (n:=1) hrb (RelCells.pieces (n:=1) hrc (RelCells.pieces (n:=1) hrd hre)))⟩
theorem baF{P:Program}{W:World}{hI:Inv W}{t:TypeId}{α:Type}{fl:α→List AV}{ok:α→Prop}(hrd:Rd P W hI t (λa=>.agg (fl a)) ok){H:Type}{enc:TypeId×Value→H}{vs:Array Value}{d:DataW H}{ps:List MemPlace}(h:DataW.Trod enc P W 0 (λ_=>true) true t (.agg vs) d ps):
  ∃a,ok a∧RelV (g0 W hI) (.agg (fl a)) (.agg vs):=by
 obtain⟨fuel,hf⟩:=h;obtain⟨a,ha,hr⟩:=hrd enc fuel _ _ hf;exact⟨a,ha,.agg _ _ hr.1 hr.2⟩
end Go.Proofs.YtmmgbnolccpjoaaGreatDoor
