/-
  Numbers as limbs of 32 bits, the lowest first: plain laws.
-/
import Derived.Test.YtojblnldfdeefaaGreatDoorA4
import Derived.Test.YtojblnldfdeefaaGreatDoorProg
import Derived.Shelf.Small.Bits
import Derived.Shelf.Small.Wraps
import Derived.Shelf.LaysM
import Derived.Shelf.Bits.Mul64
namespace Go.Proofs.YtojblnldfdeefaaGreatDoor
def Limbs(xs:List Nat):Prop:=∀x,x∈xs→x<4294967296
def val:List Nat→Nat
  | []=>0
  |x::xs=>x+4294967296*val xs
def limbsF:Nat→Nat→List Nat
  |0,_=>[]
  |_+1,0=>[]
  |f+1,n+1=>(n+1)%4294967296::limbsF f ((n+1)/4294967296)
def limbs(n:Nat):List Nat:=limbsF n n
theorem limbsF_more:∀(f g n:Nat),n≤f→n≤g→limbsF f n=limbsF g n
  |0,0,_,_,_=>rfl
  |0,g+1,n,h,_=>by
    have:n=0:=by omega
    subst this;rfl
  |f+1,0,n,_,h=>by
    have:n=0:=by omega
    subst this;rfl
  |f+1,g+1,0,_,_=>rfl
  |f+1,g+1,n+1,h1,h2=>by
    unfold limbsF;rw[limbsF_more f g ((n+1)/4294967296) (by omega) (by omega)]
theorem limbs_zero:limbs 0=[]:=rfl
theorem limbs_pos{n:Nat}(h:0<n):limbs n=n%4294967296::limbs (n/4294967296):=by
  unfold limbs;obtain⟨m,rfl⟩:∃m,n=m+1:=⟨n-1,by omega⟩;show(m+1)%4294967296::limbsF m ((m+1)/4294967296)=_;rw[limbsF_more m ((m+1)/4294967296) ((m+1)/4294967296) (by omega) (Nat.le_refl _)]
theorem val_limbs(n:Nat):val (limbs n)=n:=by
  induction n using Nat.strongRecOn with
  |ind n ih=>
    rcases Nat.eq_zero_or_pos n with h|h
    · subst h;rfl
    rw[limbs_pos h,val,ih _ (by omega)];omega
theorem Limbs.cons{x:Nat}{xs:List Nat}(h:Limbs (x::xs)):x<4294967296∧Limbs xs:=⟨h x (by simp),λy hy=>h y (by simp[hy])⟩
theorem Limbs.mk{x:Nat}{xs:List Nat}(hx:x<4294967296)(h:Limbs xs):Limbs (x::xs):=λy hy=>by
  rcases List.mem_cons.1 hy with rfl|hy
  · exact hx
  exact h y hy
theorem Limbs.nil:Limbs []:=λ_ h=>by simp at h
theorem Limbs.append{xs ys:List Nat}(h:Limbs xs)(k:Limbs ys):Limbs (xs++ys):=λy hy=>by
  rcases List.mem_append.1 hy with h1|h1
  · exact h y h1
  exact k y h1
theorem Limbs.take{xs:List Nat}(h:Limbs xs)(n:Nat):Limbs (xs.take n):=λy hy=>h y (List.mem_of_mem_take hy)
theorem Limbs.drop{xs:List Nat}(h:Limbs xs)(n:Nat):Limbs (xs.drop n):=λy hy=>h y (List.mem_of_mem_drop hy)
theorem val_append:∀(xs ys:List Nat),val (xs++ys)=val xs+4294967296^xs.length*val ys
  | [],ys=>by simp[val]
  |x::xs,ys=>by
    rw[List.cons_append,val,val_append xs ys,val,List.length_cons,Nat.pow_succ,Nat.mul_add,←Nat.mul_assoc,Nat.mul_comm (4294967296^xs.length) 4294967296];omega
theorem val_lt:∀{xs:List Nat},Limbs xs→val xs<4294967296^xs.length
  | [],_=>by simp[val]
  |x::xs,h=>by
    obtain⟨hx,hxs⟩:=h.cons;have:=val_lt hxs;rw[val,List.length_cons,Nat.pow_succ];omega
theorem limbs_len_le{n k:Nat}:(limbs n).length≤k↔n<4294967296^k:=by
  induction k generalizing n with
  |zero=>
    rcases Nat.eq_zero_or_pos n with h|h
    · subst h;simp[limbs_zero]
    rw[limbs_pos h];simp;omega
  |succ k ih=>
    rcases Nat.eq_zero_or_pos n with h|h
    · subst h;simp[limbs_zero];exact Nat.pow_pos (by decide)
    rw[limbs_pos h,List.length_cons,Nat.add_le_add_iff_right,ih,Nat.pow_succ,Nat.div_lt_iff_lt_mul (by decide)]
theorem val_take_getD{xs:List Nat}{k:Nat}(hk:k<xs.length):val (xs.take (k+1))=val (xs.take k)+4294967296^k*xs.getD k 0:=by
  rw[←List.take_append_getElem hk,val_append];simp only[val,List.length_take,Nat.mul_zero,Nat.add_zero];rw[Nat.min_eq_left (by omega)];congr 2;rw[List.getD_eq_getElem?_getD,List.getElem?_eq_getElem hk];rfl
theorem Limbs.getD{xs:List Nat}(h:Limbs xs)(k:Nat):xs.getD k 0<4294967296:=by
  rw[List.getD_eq_getElem?_getD];cases hk:xs[k]? with
  |none=>simp
  |some x=>exact h x (List.mem_of_getElem? hk)
end Go.Proofs.YtojblnldfdeefaaGreatDoor
namespace Go.Proofs.YtojblnldfdeefaaGreatDoor
open Go Go.RowKit
end Go.Proofs.YtojblnldfdeefaaGreatDoor
namespace Go.Proofs.YtojblnldfdeefaaGreatDoor
def blen(n:Nat):Nat:=if n=0 then 0 else n.log2+1
theorem blen_le{n k:Nat}:blen n≤k↔n<2^k:=by
  unfold blen;split
  · rename_i h;subst h;simp;exact Nat.pow_pos (by decide)
  rename_i h
  rw[Nat.add_one_le_iff,Nat.log2_lt h]
theorem lt_blen{n k:Nat}:k<blen n↔2^k≤n:=by
  have:=@blen_le n k;omega
theorem blen_shift{n k m:Nat}(h:2^k≤n)(hm:m=n/2^k):blen n=k+blen m:=by
  subst hm;have hp:0<2^k:=Nat.pow_pos (by decide);have h1:0<n/2^k:=Nat.div_pos h hp;have key:∀j,blen n≤k+j↔blen (n/2^k)≤j:=λj=>by
    rw[blen_le,blen_le,Nat.div_lt_iff_lt_mul hp,Nat.pow_add,Nat.mul_comm]
  have ha:=(key (blen (n/2^k))).2 (Nat.le_refl _);have hk:k≤blen n:=Nat.le_of_lt (lt_blen.2 h);have hb:=(key (blen n-k)).1 (by omega);omega
end Go.Proofs.YtojblnldfdeefaaGreatDoor
namespace Go.Proofs.YtojblnldfdeefaaGreatDoor
open Go Go.RowKit
end Go.Proofs.YtojblnldfdeefaaGreatDoor
namespace Go.Proofs.YtojblnldfdeefaaGreatDoor
theorem getD_out{xs:List Nat}{i:Nat}(h:xs.length≤i):xs.getD i 0=0:=by
  grind
theorem val_take_next(xs:List Nat)(i:Nat):val (xs.take (i+1))=val (xs.take i)+4294967296^i*xs.getD i 0:=by
  rcases Nat.lt_or_ge i xs.length with h|h
  · exact val_take_getD h
  rw[getD_out h,List.take_of_length_le (by omega),List.take_of_length_le h];omega
theorem Limbs.set{zs:List Nat}(h:Limbs zs){i v:Nat}(hv:v<4294967296):Limbs (zs.set i v):=λy hy=>by
  rcases List.mem_or_eq_of_mem_set hy with h1|h1
  · exact h y h1
  rw[h1];exact hv
end Go.Proofs.YtojblnldfdeefaaGreatDoor
namespace Go.Proofs.YtojblnldfdeefaaGreatDoor
open Go Go.RowKit
end Go.Proofs.YtojblnldfdeefaaGreatDoor
namespace Go.Proofs.YtojblnldfdeefaaGreatDoor
theorem or_add{a b k:Nat}(h:a<2^k):(b*2^k)|||a=b*2^k+a:=by
  rw[Nat.mul_comm,Nat.two_pow_add_eq_or_of_lt h]
theorem or_add2{a b k:Nat}(h:a<2^k):a|||(b*2^k)=a+b*2^k:=by
  rw[Nat.or_comm,or_add h,Nat.add_comm]
theorem val_set{zs:List Nat}{i v:Nat}(h:i<zs.length):val (zs.set i v)+4294967296^i*zs.getD i 0=val zs+4294967296^i*v:=by
  induction zs generalizing i with
  |nil=>simp at h
  |cons z zs ih=>
    cases i with
    |zero=>simp[val];omega
    |succ i=>
      have:=ih (i:=i) (by simpa using h);rw[List.set_cons_succ,val,val,List.getD_cons_succ,Nat.pow_succ];generalize 4294967296^i=B at *;generalize zs.getD i 0=x at *;have e1:B*4294967296*x=4294967296*(B*x):=by rw[Nat.mul_comm B,Nat.mul_assoc]
      have e2:B*4294967296*v=4294967296*(B*v):=by rw[Nat.mul_comm B,Nat.mul_assoc]
      rw[e1,e2];omega
theorem getD_set_ne{zs:List Nat}{i j v:Nat}(h:i≠j):(zs.set i v).getD j 0=zs.getD j 0:=by
  grind
end Go.Proofs.YtojblnldfdeefaaGreatDoor
namespace Go.Proofs.YtojblnldfdeefaaGreatDoor
open Go Go.RowKit
end Go.Proofs.YtojblnldfdeefaaGreatDoor
namespace Go.Proofs.YtojblnldfdeefaaGreatDoor
open Go Go.RowKit
end Go.Proofs.YtojblnldfdeefaaGreatDoor
set_option maxHeartbeats 1000000
namespace Go.Proofs.YtojblnldfdeefaaGreatDoor
open Go Go.RowKit
def mid(zs:List Nat)(o:Nat)(ws:List Nat):List Nat:=zs.take o++ws++zs.drop (o+ws.length)
end Go.Proofs.YtojblnldfdeefaaGreatDoor
namespace Go.Proofs.YtojblnldfdeefaaGreatDoor
open Go Go.RowKit
end Go.Proofs.YtojblnldfdeefaaGreatDoor
namespace Go.Proofs.YtojblnldfdeefaaGreatDoor
open Go Go.RowKit
end Go.Proofs.YtojblnldfdeefaaGreatDoor
namespace Go.Proofs.YtojblnldfdeefaaGreatDoor
open Go Go.RowKit
end Go.Proofs.YtojblnldfdeefaaGreatDoor
namespace Go.Proofs.YtojblnldfdeefaaGreatDoor
open Go Go.RowKit
end Go.Proofs.YtojblnldfdeefaaGreatDoor
namespace Go.Proofs.YtojblnldfdeefaaGreatDoor
open Go Go.RowKit
end Go.Proofs.YtojblnldfdeefaaGreatDoor
namespace Go.Proofs.YtojblnldfdeefaaGreatDoor
open Go Go.RowKit
end Go.Proofs.YtojblnldfdeefaaGreatDoor
namespace Go.Proofs.YtojblnldfdeefaaGreatDoor
open Go
def dgt(n:Nat):UInt8:=UInt8.ofNat (48+n)
def decF:Nat→Nat→List UInt8→List UInt8
  |0,_,acc=>acc
  |f+1,n,acc=>if n<10 then dgt n::acc else decF f (n/10) (dgt (n%10)::acc)
def dec(n:Nat):List UInt8:=decF (n+1) n []
end Go.Proofs.YtojblnldfdeefaaGreatDoor
namespace Go.Proofs
open Go.Shelf
def Tryz.lays129_ren:Go.Shelf.Ren:=⟨fun|129=>210|n=>n,fun|53=>25|3=>3|4=>4|46=>73|5=>5|9=>9|n=>n,fun|n=>n⟩
theorem Tryz.lays129:Go.Proofs.Lays.n129 Tryz.prog Tryz.lays129_ren:={
  mixed:=by kernel_rfl
  f129:=Tryz.func210.trans (congrArg some (by kernel_rfl))
  t3:=Tryz.underlying3
  a3:=Tryz.isAgg3
  z3:=Tryz.sizeOf3
  v3:=Tryz.zeroValue3
  t4:=Tryz.underlying4
  a4:=Tryz.isAgg4
  z4:=Tryz.sizeOf4
  v4:=Tryz.zeroValue4
  t5:=Tryz.underlying5
  a5:=Tryz.isAgg5
  z5:=Tryz.sizeOf5
  v5:=Tryz.zeroValue5
  t9:=Tryz.underlying9
  a9:=Tryz.isAgg9
  z9:=Tryz.sizeOf9
  v9:=Tryz.zeroValue9
  t46:=Tryz.underlying73
  a46:=Tryz.isAgg73
  z46:=Tryz.sizeOf73
  v46:=Tryz.zeroValue73
  t53:=Tryz.underlying25
  a53:=Tryz.isAgg25
  z53:=Tryz.sizeOf25
  v53:=Tryz.zeroValue25}
theorem Tryz.bits_Len64(x:Int)(w:World)(h0:0≤x)(h1:x≤18446744073709551615):
    Calls Tryz.prog 210 #[.int .u64 x] w λe w'=>e= .returned (.int .i64 (Lib.bitLen x.toNat))∧w'=w:=Any.bits_Len64 Tryz.lays129 x w h0 h1
def Tryz.lays264_ren:Go.Shelf.Ren:=⟨fun|264=>209|n=>n,fun|53=>25|46=>73|n=>n,fun|n=>n⟩
theorem Tryz.lays264:Go.Proofs.Lays.n264 Tryz.prog Tryz.lays264_ren:={
  mixed:=by kernel_rfl
  f264:=Tryz.func209.trans (congrArg some (by kernel_rfl))
  t46:=Tryz.underlying73
  a46:=Tryz.isAgg73
  z46:=Tryz.sizeOf73
  v46:=Tryz.zeroValue73
  t53:=Tryz.underlying25
  a53:=Tryz.isAgg25
  z53:=Tryz.sizeOf25
  v53:=Tryz.zeroValue25}
open Go.RowKit Go.Lib in
theorem Tryz.bits_Mul64(x y:Nat)(hx:x<18446744073709551616)(hy:y<18446744073709551616)(w:World):
    Calls Tryz.prog 209 #[.int .u64 x,.int .u64 y] w λe w'=>e= .returned (.tuple #[.int .u64 ((x*y/18446744073709551616:Nat):Int),.int .u64 ((x*y%18446744073709551616:Nat):Int)])∧w'=w:=Any.bits_Mul64 Tryz.lays264 x y hx hy w
end Go.Proofs
set_option maxHeartbeats 1000000
namespace Go.Proofs.YtojblnldfdeefaaGreatDoor
open Go Go.RowKit Go.Shelf
theorem relvs1{g:G}{x:AV}{vs:List Value}(h:RelVs g [x] vs):∃v,vs=[v]∧RelV g x v:=by
  obtain⟨hl,hr⟩:=h
  match vs,hl with
  | [v],_=>exact⟨v,rfl,hr 0 _ _ rfl rfl⟩
theorem relvs2{g:G}{x y:AV}{vs:List Value}(h:RelVs g [x,y] vs):∃v u,vs=[v,u]∧RelV g x v∧RelV g y u:=by
  obtain⟨hl,hr⟩:=h
  match vs,hl with
  | [v,u],_=>exact⟨v,u,rfl,hr 0 _ _ rfl rfl,hr 1 _ _ rfl rfl⟩
theorem relvs3{g:G}{x y z:AV}{vs:List Value}(h:RelVs g [x,y,z] vs):∃v u t,vs=[v,u,t]∧RelV g x v∧RelV g y u∧RelV g z t:=by
  obtain⟨hl,hr⟩:=h
  match vs,hl with
  | [v,u,t],_=>exact⟨v,u,t,rfl,hr 0 _ _ rfl rfl,hr 1 _ _ rfl rfl,hr 2 _ _ rfl rfl⟩
theorem ACall.lib{P:Program}{f:FuncId}{xs:List AV}{H:Heap}(y:AV)(h:∀g vs w,RelVs g xs vs→Sat g H w→Calls P f vs.toArray w (λe w'=>∃v,e= .returned v∧RelV g y v∧Below w.heap.size w w')):ACall P f xs H (λz H'=>z=y∧H'=H):=
  λg vs w k s=>(h g vs w k s).mono λ_ _ ⟨v,he,hr,hb⟩=>⟨v,he,g,y,H,.id,hr,s.grow hb,rfl,rfl⟩
theorem below_drawn(B:Nat)(w:World)(n:Nat):Below B w (w.drewN n):=⟨rfl,rfl,rfl,Nat.le_refl _,λ_ _=>rfl⟩
end Go.Proofs.YtojblnldfdeefaaGreatDoor
namespace Go.Proofs.YtojblnldfdeefaaGreatDoor
open Go Go.RowKit
def kindN(x:Nat):Nat:=
  if x/4503599627370496%2048=2047 then(if x%4503599627370496=0 then 3 else 4)
  else if x/4503599627370496%2048=0 then(if x%4503599627370496=0 then 0 else 1)else 2
def partM(x:Nat):Nat:=if kindN x≤1 then x%4503599627370496 else if kindN x=2 then 4503599627370496+x%4503599627370496 else 0
def partE(x:Nat):Int:=if kindN x≤1 then-1074 else if kindN x=2 then((x/4503599627370496%2048:Nat):Int)-1075 else 0
def negB(x:Nat):Bool:=decide ((9223372036854775808:Int)≤(x:Int))
theorem and_2047(x:Nat):x&&&2047=x%2048:=Nat.and_two_pow_sub_one_eq_mod x 11
theorem and_frac(x:Nat):x&&&4503599627370495=x%4503599627370496:=Nat.and_two_pow_sub_one_eq_mod x 52
theorem or_one{f:Nat}(h:f<4503599627370496):4503599627370496|||f=4503599627370496+f:=by
  have:=Nat.two_pow_add_eq_or_of_lt (i:=52) h 1;simp at this;omega
theorem partM_lt(x:Nat):partM x<9007199254740992:=by
  unfold partM;split
  · omega
  split<;>omega
theorem partE_range(x:Nat): -1075≤partE x∧partE x≤972:=by
  unfold partE;split
  · omega
  split<;>omega
theorem kindN_le(x:Nat):kindN x≤4:=by
  unfold kindN;split
  · split<;>omega
  split
  · split<;>omega
  omega
end Go.Proofs.YtojblnldfdeefaaGreatDoor
namespace Go.Proofs.YtojblnldfdeefaaGreatDoor
open Go Go.RowKit
set_option maxRecDepth 100000
theorem Kind_calls(x:Nat)(hx:x<18446744073709551616)(H:Heap):ACall Tryz.prog 92 [.int .u64 (x:Int)] H (λy H'=>y= .int .i64 (kindN x:Int)∧H'=H):=by
  have hp:(2:Nat)^52=4503599627370496:=by decide
  refine ACall.of_body Tryz.func92 rfl Tryz.ntmps92 Tryz.results92 rfl ?_;iterate 9 refine AX ?_
  refine AM ?_;refine .p rfl (pure_and64 (tm rfl) (ev_nat 2047) (by omega) (by omega)) ?_;refine AX ?_;refine .p rfl (pure_and64 (tm rfl) (ev_nat 4503599627370495) (by assumption) (by omega)) ?_;iterate 6 refine AX ?_
  rw[and_2047,and_frac,hp];iterate 4 refine AM ?_
  refine bool_casesL (t:=13) rfl (λhg13=>?_) (λhg13=>?_)
  · have hh13:=hg13;try simp only[decide_eq_true_eq]at hh13
    iterate 6 refine AM ?_
    refine AWP.cx rfl (λhc10=>?_) (λhc10=>?_)
    · iterate 9 refine AX ?_
      refine⟨?_,rfl⟩;simp only[packed,kindN];congr 1
      (repeat' split)<;>first|rfl|omega
    iterate 7 refine AM ?_
    refine AWP.cx rfl (λhc17=>?_) (λhc17=>?_)
    · iterate 9 refine AX ?_
      refine⟨?_,rfl⟩;simp only[packed,kindN];congr 1
      (repeat' split)<;>first|rfl|omega
    iterate 7 refine AM ?_
    refine AWP.cx rfl (λhc20=>?_) (λhc20=>?_)
    · iterate 9 refine AX ?_
      refine⟨?_,rfl⟩;simp only[packed,kindN];congr 1
      (repeat' split)<;>first|rfl|omega
    iterate 7 refine AM ?_
    refine AWP.cx rfl (λhc23=>?_) (λhc23=>?_)
    · iterate 9 refine AX ?_
      refine⟨?_,rfl⟩;simp only[packed,kindN];congr 1
      (repeat' split)<;>first|rfl|omega
    iterate 10 refine AX ?_
    refine⟨?_,rfl⟩;simp only[packed,kindN];congr 1
    (repeat' split)<;>first|rfl|omega
  have hh13:=hg13;try simp only[decide_eq_false_iff_not]at hh13
  iterate 6 refine AX ?_
  refine AWP.cond_false (tm rfl) (by rfl) ?_;iterate 7 refine AM ?_
  refine AWP.cx rfl (λhc17=>?_) (λhc17=>?_)
  · iterate 9 refine AX ?_
    refine⟨?_,rfl⟩;simp only[packed,kindN];congr 1
    (repeat' split)<;>first|rfl|omega
  iterate 7 refine AM ?_
  refine AWP.cx rfl (λhc20=>?_) (λhc20=>?_)
  · iterate 9 refine AX ?_
    refine⟨?_,rfl⟩;simp only[packed,kindN];congr 1
    (repeat' split)<;>first|rfl|omega
  iterate 7 refine AM ?_
  refine AWP.cx rfl (λhc23=>?_) (λhc23=>?_)
  · iterate 9 refine AX ?_
    refine⟨?_,rfl⟩;simp only[packed,kindN];congr 1
    (repeat' split)<;>first|rfl|omega
  iterate 10 refine AX ?_
  refine⟨?_,rfl⟩;simp only[packed,kindN];congr 1
  (repeat' split)<;>first|rfl|omega
theorem Split_calls(x:Nat)(hx:x<18446744073709551616)(H:Heap):ACall Tryz.prog 128 [.int .u64 (x:Int)] H (λy H'=>y= .tuple [.bool (negB x),.int .u64 ((partM x:Nat):Int),.int .i64 (partE x)]∧H'=H):=by
  have hp:(2:Nat)^52=4503599627370496:=by decide
  have hk:=kindN_le x;have hml:=Nat.mod_lt x (by decide:0<4503599627370496);have hor:=or_one hml;have hbb:=and_2047 (x/2^52);refine ACall.of_body Tryz.func128 rfl Tryz.ntmps128 Tryz.results128 rfl ?_;iterate 4 refine AM ?_
  iterate 6 refine AX ?_
  iterate 2 refine AM ?_
  refine .p rfl (pure_and64 (tm rfl) (ev_nat 4503599627370495) (by assumption) (by omega)) ?_;iterate 6 refine AX ?_
  rw[and_frac];iterate 2 refine AX ?_
  refine .cl rfl Tryz.call92 (evs1 rfl) (Kind_calls _ (by assumption) _) ?_;iterate 3 refine AX ?_
  refine AWP.seqToL [(13,.bool (decide (kindN x≤1)))] [0,2,3,4,5,6,12] ?_ ?_
  · iterate 6 refine AX ?_
    refine AWP.cx rfl (λhc13=>?_) (λhc13=>?_)
    · refine AX ?_;exact⟨rfl,(sub_e rfl (by congr 1;symm;first|(exact decide_eq_true (by omega))|(by_cases h:kindN x≤1<;>simp[h]<;>omega)) sX),rfl⟩
    iterate 4 refine AX ?_
    exact⟨rfl,(sub_e rfl (by congr 1;symm;first|(exact decide_eq_true (by omega))|(by_cases h:kindN x≤1<;>simp[h]<;>omega)) sX),rfl⟩
  refine AWP.sub [(13,_),(0,_),(2,_),(3,_),(4,_),(5,_),(6,_),(12,_)] sX ?_;refine AWP.cx rfl (λhc13=>?_) (λhc13=>?_)
  · iterate 13 refine AX ?_
    refine⟨?_,rfl⟩;simp only[packed,partM,partE];rw[if_pos (by omega),if_pos (by omega)]<;>rfl
  iterate 6 refine AX ?_
  refine AWP.cx rfl (λhc18=>?_) (λhc18=>?_)
  · iterate 4 refine AX ?_
    refine .p rfl (pure_or64 (ev_nat 4503599627370496) (tm rfl) (by omega) (by omega)) ?_;iterate 2 refine AM ?_
    refine .p rfl (pure_and64 (tm rfl) (ev_nat 2047) (by omega) (by omega)) ?_;iterate 11 refine AX ?_
    refine⟨?_,rfl⟩;simp only[packed,partM,partE];rw[if_neg (by omega),if_pos (by omega),if_neg (by omega),if_pos (by omega),hor,and_2047,hp]<;>rfl
  iterate 8 refine AM ?_
  iterate 5 refine AX ?_
  refine⟨?_,rfl⟩;simp only[packed,partM,partE];rw[if_neg (by omega),if_neg (by omega),if_neg (by omega),if_neg (by omega)]<;>rfl
end Go.Proofs.YtojblnldfdeefaaGreatDoor
-- shim
