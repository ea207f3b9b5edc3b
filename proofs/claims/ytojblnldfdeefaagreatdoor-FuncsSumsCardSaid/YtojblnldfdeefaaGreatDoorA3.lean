/-
  The frame: St,Sq.
-/
import Derived.Test.YtojblnldfdeefaaGreatDoorA2
import Derived.Laws.Concat
import Derived.Laws.Strings2
import Derived.Laws.Strings3
import Derived.Laws.IdiomStrings
import Derived.Lib.Bytealg
import Derived.Laws.Externs
namespace Go.Proofs.YtojblnldfdeefaaGreatDoor
open Go Go.RowKit
section
section
variable{P:Program}{dst:Option Tmp}{ty:TypeId}{pos:String}{af:Array Edge}{gd:Option (Nat×Bool)}{env:Env}
theorem ev_str{l:List UInt8}(h:Nat.ble l.length 1000=true):Ev env (.const (.string ⟨l.toArray⟩)) (.str l):=.const _ _ λ_=>.str l (Nat.le_trans (Nat.le_of_ble_eq_true h) (by decide))
theorem pure_shr{T T':TypeId}{x y:Operand}{k k':IntKind}{m q:Int}(hx:Ev env x (.int k m))(hy:Ev env y (.int k' q))(hq:0≤q):APure P ⟨dst,.binOp .shr T x y T',ty,pos,af,gd⟩ env (.int k (m.fdiv (2^(min q.toNat k.bits)))):=by
  intro g n a ka;have hv:=hx.rel ka;have hu:=hy.rel ka;generalize he:a.eval x=v at hv;generalize hf:a.eval y=u at hu;cases hv;cases hu
  have hn:¬q<0:=by omega
  refine⟨_,.int _ _,λw _=>?_⟩;simp only[execOp,he,hf];simp[eqGuard,binOp,Op.shift,hn]
theorem bytesEq{a b:List UInt8}:((⟨a.toArray⟩:ByteArray).toList==(⟨b.toArray⟩:ByteArray).toList)=decide (a=b):=by
  rw[ByteArray.toList_eq,ByteArray.toList_eq];show(a.toArray.toList==b.toArray.toList)=_;rw[List.toList_toArray,List.toList_toArray];by_cases h:a=b<;>simp[h]
theorem run_binStr{T:TypeId}(a b:List UInt8)(w:World):(binOp .eql T (.string ⟨a.toArray⟩) (.string ⟨b.toArray⟩)).run P w= .ok (.bool (decide (a=b))) w∧(binOp .neq T (.string ⟨a.toArray⟩) (.string ⟨b.toArray⟩)).run P w= .ok (.bool (!decide (a=b))) w:=by
  rw[binOp_string_eql,binOp_string_neq,bytesEq];exact⟨rfl,rfl⟩
theorem pure_eqlStr{T T':TypeId}{x y:Operand}{m q:List UInt8}(hx:Ev env x (.str m))(hy:Ev env y (.str q)):APure P ⟨dst,.binOp .eql T x y T',ty,pos,af,gd⟩ env (.bool (decide (m=q))):=by
  intro g n a ka;obtain⟨v,he,hv⟩:=ev1 hx ka;obtain⟨u,hf,hu⟩:=ev1 hy ka;cases hv;cases hu
  exact⟨_,.bool _,λw _=>exec_bin he hf rfl (run_binStr m q w).1⟩
theorem pure_neqStr{T T':TypeId}{x y:Operand}{m q:List UInt8}(hx:Ev env x (.str m))(hy:Ev env y (.str q)):APure P ⟨dst,.binOp .neq T x y T',ty,pos,af,gd⟩ env (.bool (!decide (m=q))):=by
  intro g n a ka;obtain⟨v,he,hv⟩:=ev1 hx ka;obtain⟨u,hf,hu⟩:=ev1 hy ka;cases hv;cases hu
  exact⟨_,.bool _,λw _=>exec_bin he hf rfl (run_binStr m q w).2⟩
end
end
section
section
variable{P:Program}{dst:Option Tmp}{ty:TypeId}{pos:String}{af:Array Edge}{gd:Option (Nat×Bool)}{env:Env}
theorem maxLen_eq:maxLen=9223372036854775807:=rfl
theorem ev_nat{k:IntKind}(n:Nat):Ev env (.const (.int k (n:Int))) (.int k (n:Int)):=.const _ _ λ_=>.int k _
/-! ### bits -/
theorem ofInt_toNat{w a:Nat}(h:a<2^w):(BitVec.ofInt w (a:Int)).toNat=a:=by
  rw[BitVec.toNat_ofInt];have:((a:Int)%((2^w:Nat):Int))=a:=Int.emod_eq_of_lt (by omega) (by exact_mod_cast h);rw[this];rfl
theorem bits_nat{k:IntKind}{a b:Nat}(ha:a<2^k.bits)(hb:b<2^k.bits):
    bits .and k a b=k.wrap ((a&&&b:Nat):Int)∧bits .or k a b=k.wrap ((a|||b:Nat):Int)∧bits .xor k a b=k.wrap ((a^^^b:Nat):Int)∧bits .andNot k a b=k.wrap ((a-(a&&&b):Nat):Int):=by
  refine⟨?_,?_,?_,?_⟩
  · show k.wrap ((BitVec.ofInt k.bits (a:Int)&&&BitVec.ofInt k.bits (b:Int)).toNat:Int)=_;rw[BitVec.toNat_and,ofInt_toNat ha,ofInt_toNat hb]
  · show k.wrap ((BitVec.ofInt k.bits (a:Int)|||BitVec.ofInt k.bits (b:Int)).toNat:Int)=_;rw[BitVec.toNat_or,ofInt_toNat ha,ofInt_toNat hb]
  · show k.wrap ((BitVec.ofInt k.bits (a:Int)^^^BitVec.ofInt k.bits (b:Int)).toNat:Int)=_;rw[BitVec.toNat_xor,ofInt_toNat ha,ofInt_toNat hb]
  show k.wrap ((BitVec.ofInt k.bits (a:Int)&&& ~~~BitVec.ofInt k.bits (b:Int)).toNat:Int)=_;have e1:=ofInt_toNat ha;have e2:=ofInt_toNat hb;generalize BitVec.ofInt k.bits (a:Int)=x at e1 ⊢;generalize BitVec.ofInt k.bits (b:Int)=y at e2 ⊢;have hd:(x&&& ~~~y)&&&(x&&&y)=0#_:=by
    ext i
    simp
    intros;simp_all
  have hs:(x&&& ~~~y)+(x&&&y)=x:=by
    rw[BitVec.add_eq_or_of_and_eq_zero _ _ hd];ext i;simp;cases x[i]<;>cases y[i]<;>rfl
  have h1:=congrArg BitVec.toNat hs;rw[BitVec.toNat_add,BitVec.toNat_and x y,e1,e2]at h1;have h2:(x&&& ~~~y).toNat≤a:=by rw[BitVec.toNat_and,e1];exact Nat.and_le_left
  have h3:a&&&b≤a:=Nat.and_le_left;have key:(x&&& ~~~y).toNat=a-(a&&&b):=by
    generalize(x&&& ~~~y).toNat=z at *;generalize a&&&b=u at *;rcases Nat.lt_or_ge (z+u) (2^k.bits)with h|h
    · rw[Nat.mod_eq_of_lt h]at h1;omega
    rw[Nat.mod_eq_sub_mod h,Nat.mod_eq_of_lt (by omega)]at h1;omega
  rw[key]
theorem run_bits{op:BinOp}{T:TypeId}{k:IntKind}{x y:Int}{w:World}(h:op= .and∨op= .or∨op= .xor∨op= .andNot):(binOp op T (.int k x) (.int k y)).run P w= .ok (.int k (bits op k x y)) w:=by
  rcases h with rfl|rfl|rfl|rfl<;>simp[binOp,intBits_and,intBits_or,intBits_xor,intBits_andNot]
theorem uwrap{k:IntKind}(hk:k.signed=false)(n:Int):k.wrap n=n%2^k.bits:=by
  simp[IntKind.wrap,hk]
theorem shr_nat{w a q:Nat}(h:a<2^w):(a:Int).fdiv (2^(min (q:Int).toNat w))=((a/2^q:Nat):Int):=by
  have e:((2:Int)^(min (q:Int).toNat w))=((2^(min q w):Nat):Int):=by simp
  rw[e,Int.fdiv_eq_ediv_of_nonneg _ (Int.natCast_nonneg _),←Int.natCast_ediv];congr 1;by_cases hq:q≤w
  · rw[Nat.min_eq_left hq]
  rw[Nat.min_eq_right (by omega),Nat.div_eq_of_lt h,Nat.div_eq_of_lt (Nat.lt_of_lt_of_le h (Nat.pow_le_pow_right (by decide) (by omega)))]
theorem shl_nat{k:IntKind}(hk:k.signed=false){a q:Nat}:k.wrap ((a:Int)*2^(min (q:Int).toNat k.bits))=((a*2^q%2^k.bits:Nat):Int):=by
  rw[uwrap hk];have e:((a:Int)*2^(min (q:Int).toNat k.bits))=((a*2^(min q k.bits):Nat):Int):=by simp
  have e2:((2:Int)^k.bits)=((2^k.bits:Nat):Int):=by simp
  rw[e,e2,←Int.natCast_emod];congr 1;by_cases hq:q≤k.bits
  · rw[Nat.min_eq_left hq]
  rw[Nat.min_eq_right (by omega)];obtain⟨d,rfl⟩:∃d,q=k.bits+d:=⟨q-k.bits,by omega⟩;rw[Nat.pow_add,Nat.mul_mod_left,←Nat.mul_assoc,Nat.mul_right_comm,Nat.mul_mod_left]
theorem pure_shl{T T':TypeId}{x y:Operand}{k k':IntKind}{m q:Int}(hx:Ev env x (.int k m))(hy:Ev env y (.int k' q))(hq:0≤q):APure P ⟨dst,.binOp .shl T x y T',ty,pos,af,gd⟩ env (.int k (k.wrap (m*2^(min q.toNat k.bits)))):=by
  intro g n a ka;obtain⟨v,he,hv⟩:=ev1 hx ka;obtain⟨u,hf,hu⟩:=ev1 hy ka;cases hv;cases hu
  have hn:¬q<0:=by omega
  refine⟨_,.int _ _,λw _=>?_⟩;simp only[execOp,he,hf];simp[eqGuard,binOp,Op.shift,hn]
theorem wrap32{n:Int}(h0:0≤n)(h1:n<4294967296):IntKind.u32.wrap n=n:=wrap_of (by simp[IntKind.min,IntKind.signed];try omega) (by simp[IntKind.max,IntKind.bits,IntKind.signed];omega)
theorem wrapN32{a:Nat}(h:a<4294967296):IntKind.u32.wrap (a:Int)=a:=wrap32 (Int.natCast_nonneg _) (by omega)
theorem pure_quo32{T T':TypeId}{x y:Operand}{a b:Nat}(hx:Ev env x (.int .u32 (a:Int)))(hy:Ev env y (.int .u32 (b:Int)))(ha:a<4294967296)(hb:0<b):APure P ⟨dst,.binOp .quo T x y T',ty,pos,af,gd⟩ env (.int .u32 ((a/b:Nat):Int)):=by
  have h:=pure_quoW (P:=P) (dst:=dst) (T:=T) (T':=T') (ty:=ty) (pos:=pos) (af:=af) (gd:=gd) hx hy (by omega);have e:(a:Int).tdiv b=((a/b:Nat):Int):=by rw[Int.tdiv_eq_ediv_of_nonneg (by omega)];simp
  rwa[e,wrapN32 (Nat.lt_of_le_of_lt (Nat.div_le_self a b) ha)]at h
theorem wrap64{n:Int}(h0:0≤n)(h1:n<18446744073709551616):IntKind.u64.wrap n=n:=wrap_of (by simp[IntKind.min,IntKind.signed];try omega) (by simp[IntKind.max,IntKind.bits,IntKind.signed];omega)
theorem wrapN64{a:Nat}(h:a<18446744073709551616):IntKind.u64.wrap (a:Int)=a:=wrap64 (Int.natCast_nonneg _) (by omega)
theorem lt64{a:Nat}(h:a<18446744073709551616):a<2^IntKind.u64.bits:=by simp[IntKind.bits];omega
theorem pure_and64{T T':TypeId}{x y:Operand}{a b:Nat}(hx:Ev env x (.int .u64 (a:Int)))(hy:Ev env y (.int .u64 (b:Int)))(ha:a<18446744073709551616)(hb:b<18446744073709551616):APure P ⟨dst,.binOp .and T x y T',ty,pos,af,gd⟩ env (.int .u64 ((a&&&b:Nat):Int)):=
  pure_int2 hx hy λ_=>⟨_,.int _ _,λw=>by
    have h:(a&&&b)<18446744073709551616:=Nat.lt_of_le_of_lt Nat.and_le_left ha;have e:=(bits_nat (k:=.u64) (lt64 ha) (lt64 hb)).1;rw[wrapN64 h]at e;rw[run_bits (by simp),e]⟩
theorem pure_or64{T T':TypeId}{x y:Operand}{a b:Nat}(hx:Ev env x (.int .u64 (a:Int)))(hy:Ev env y (.int .u64 (b:Int)))(ha:a<18446744073709551616)(hb:b<18446744073709551616):APure P ⟨dst,.binOp .or T x y T',ty,pos,af,gd⟩ env (.int .u64 ((a|||b:Nat):Int)):=
  pure_int2 hx hy λ_=>⟨_,.int _ _,λw=>by
    have h:(a|||b)<18446744073709551616:=Nat.or_lt_two_pow (n:=64) (by simpa using ha) (by simpa using hb);have e:=(bits_nat (k:=.u64) (lt64 ha) (lt64 hb)).2.1;rw[wrapN64 h]at e;rw[run_bits (by simp),e]⟩
theorem pure_andNot64{T T':TypeId}{x y:Operand}{a b:Nat}(hx:Ev env x (.int .u64 (a:Int)))(hy:Ev env y (.int .u64 (b:Int)))(ha:a<18446744073709551616)(hb:b<18446744073709551616):APure P ⟨dst,.binOp .andNot T x y T',ty,pos,af,gd⟩ env (.int .u64 ((a-(a&&&b):Nat):Int)):=
  pure_int2 hx hy λ_=>⟨_,.int _ _,λw=>by
    have h:(a-(a&&&b))<18446744073709551616:=by omega
    have e:=(bits_nat (k:=.u64) (lt64 ha) (lt64 hb)).2.2.2;rw[wrapN64 h]at e;rw[run_bits (by simp),e]⟩
theorem pure_shr64{T T':TypeId}{x y:Operand}{k':IntKind}{a q:Nat}(hx:Ev env x (.int .u64 (a:Int)))(hy:Ev env y (.int k' (q:Int)))(ha:a<18446744073709551616):APure P ⟨dst,.binOp .shr T x y T',ty,pos,af,gd⟩ env (.int .u64 ((a/2^q:Nat):Int)):=by
  have h:=pure_shr (P:=P) (dst:=dst) (T:=T) (T':=T') (ty:=ty) (pos:=pos) (af:=af) (gd:=gd) hx hy (Int.natCast_nonneg q)
  rwa[shr_nat (lt64 ha)]at h
theorem pure_shl64{T T':TypeId}{x y:Operand}{k':IntKind}{a q:Nat}(hx:Ev env x (.int .u64 (a:Int)))(hy:Ev env y (.int k' (q:Int))):APure P ⟨dst,.binOp .shl T x y T',ty,pos,af,gd⟩ env (.int .u64 ((a*2^q%18446744073709551616:Nat):Int)):=by
  have h:=pure_shl (P:=P) (dst:=dst) (T:=T) (T':=T') (ty:=ty) (pos:=pos) (af:=af) (gd:=gd) hx hy (Int.natCast_nonneg q)
  rwa[shl_nat (k:=.u64) rfl]at h
theorem pure_shlX64{T T':TypeId}{x y:Operand}{k':IntKind}{a q:Nat}(hx:Ev env x (.int .u64 (a:Int)))(hy:Ev env y (.int k' (q:Int)))(hq:q≤64)(h1:a*2^q<18446744073709551616):APure P ⟨dst,.binOp .shl T x y T',ty,pos,af,gd⟩ env (.int .u64 ((a*2^q:Nat):Int)):=by
  have h:=pure_shl (P:=P) (dst:=dst) (T:=T) (T':=T') (ty:=ty) (pos:=pos) (af:=af) (gd:=gd) hx hy (Int.natCast_nonneg q);rw[show min (q:Int).toNat IntKind.u64.bits=q by simp[IntKind.bits];omega]at h;have e:((a:Int)*2^q)=((a*2^q:Nat):Int):=by simp
  rwa[e,wrapN64 h1]at h
theorem pure_addM64{T T':TypeId}{x y:Operand}{a b:Nat}(hx:Ev env x (.int .u64 (a:Int)))(hy:Ev env y (.int .u64 (b:Int))):APure P ⟨dst,.binOp .add T x y T',ty,pos,af,gd⟩ env (.int .u64 (((a+b)%18446744073709551616:Nat):Int)):=by
  have h:=pure_addW (P:=P) (dst:=dst) (T:=T) (T':=T') (ty:=ty) (pos:=pos) (af:=af) (gd:=gd) hx hy;rw[uwrap (k:=.u64) rfl]at h;have e:(((a:Int)+b)%2^IntKind.u64.bits)=(((a+b)%18446744073709551616:Nat):Int):=by simp[IntKind.bits]
  rwa[e]at h
theorem pure_addX64{T T':TypeId}{x y:Operand}{a b:Nat}(hx:Ev env x (.int .u64 (a:Int)))(hy:Ev env y (.int .u64 (b:Int)))(hl:a+b<18446744073709551616):APure P ⟨dst,.binOp .add T x y T',ty,pos,af,gd⟩ env (.int .u64 ((a+b:Nat):Int)):=by
  have h:=pure_addM64 (P:=P) (dst:=dst) (T:=T) (T':=T') (ty:=ty) (pos:=pos) (af:=af) (gd:=gd) hx hy
  rwa[Nat.mod_eq_of_lt hl]at h
theorem pure_mulM64{T T':TypeId}{x y:Operand}{a b:Nat}(hx:Ev env x (.int .u64 (a:Int)))(hy:Ev env y (.int .u64 (b:Int))):APure P ⟨dst,.binOp .mul T x y T',ty,pos,af,gd⟩ env (.int .u64 (((a*b)%18446744073709551616:Nat):Int)):=by
  have h:=pure_mulW (P:=P) (dst:=dst) (T:=T) (T':=T') (ty:=ty) (pos:=pos) (af:=af) (gd:=gd) hx hy;rw[uwrap (k:=.u64) rfl]at h;have e:(((a:Int)*b)%2^IntKind.u64.bits)=(((a*b)%18446744073709551616:Nat):Int):=by simp[IntKind.bits]
  rwa[e]at h
theorem pure_mulX64{T T':TypeId}{x y:Operand}{a b:Nat}(hx:Ev env x (.int .u64 (a:Int)))(hy:Ev env y (.int .u64 (b:Int)))(hl:a*b<18446744073709551616):APure P ⟨dst,.binOp .mul T x y T',ty,pos,af,gd⟩ env (.int .u64 ((a*b:Nat):Int)):=by
  have h:=pure_mulM64 (P:=P) (dst:=dst) (T:=T) (T':=T') (ty:=ty) (pos:=pos) (af:=af) (gd:=gd) hx hy
  rwa[Nat.mod_eq_of_lt hl]at h
theorem pure_subX64{T T':TypeId}{x y:Operand}{a b:Nat}(hx:Ev env x (.int .u64 (a:Int)))(hy:Ev env y (.int .u64 (b:Int)))(hl:b≤a)(ha:a<18446744073709551616):APure P ⟨dst,.binOp .sub T x y T',ty,pos,af,gd⟩ env (.int .u64 ((a-b:Nat):Int)):=by
  have h:=pure_subW (P:=P) (dst:=dst) (T:=T) (T':=T') (ty:=ty) (pos:=pos) (af:=af) (gd:=gd) hx hy
  rwa[show((a:Int)-b)=((a-b:Nat):Int) by omega,wrap64 (by omega) (by omega)]at h
theorem pure_subM64{T T':TypeId}{x y:Operand}{a b:Nat}(hx:Ev env x (.int .u64 (a:Int)))(hy:Ev env y (.int .u64 (b:Int)))(hb:b≤18446744073709551616):APure P ⟨dst,.binOp .sub T x y T',ty,pos,af,gd⟩ env (.int .u64 (((a+(18446744073709551616-b))%18446744073709551616:Nat):Int)):=by
  have h:=pure_subW (P:=P) (dst:=dst) (T:=T) (T':=T') (ty:=ty) (pos:=pos) (af:=af) (gd:=gd) hx hy;rw[uwrap (k:=.u64) rfl]at h;have e:(((a:Int)-b)%2^IntKind.u64.bits)=(((a+(18446744073709551616-b))%18446744073709551616:Nat):Int):=by simp only[IntKind.bits];omega
  rwa[e]at h
theorem pure_quo64{T T':TypeId}{x y:Operand}{a b:Nat}(hx:Ev env x (.int .u64 (a:Int)))(hy:Ev env y (.int .u64 (b:Int)))(ha:a<18446744073709551616)(hb:0<b):APure P ⟨dst,.binOp .quo T x y T',ty,pos,af,gd⟩ env (.int .u64 ((a/b:Nat):Int)):=by
  have h:=pure_quoW (P:=P) (dst:=dst) (T:=T) (T':=T') (ty:=ty) (pos:=pos) (af:=af) (gd:=gd) hx hy (by omega);have e:(a:Int).tdiv b=((a/b:Nat):Int):=by rw[Int.tdiv_eq_ediv_of_nonneg (by omega)];simp
  rwa[e,wrapN64 (Nat.lt_of_le_of_lt (Nat.div_le_self a b) ha)]at h
theorem pure_rem64{T T':TypeId}{x y:Operand}{a b:Nat}(hx:Ev env x (.int .u64 (a:Int)))(hy:Ev env y (.int .u64 (b:Int)))(hb:0<b):APure P ⟨dst,.binOp .rem T x y T',ty,pos,af,gd⟩ env (.int .u64 ((a%b:Nat):Int)):=by
  have h:=pure_rem (P:=P) (dst:=dst) (T:=T) (T':=T') (ty:=ty) (pos:=pos) (af:=af) (gd:=gd) hx hy (by omega);have e:(a:Int).tmod b=((a%b:Nat):Int):=by rw[Int.tmod_eq_emod_of_nonneg (by omega)];simp
  rwa[e]at h
theorem wrapI64{n:Int}(h0:0≤n)(h1:n<9223372036854775808):IntKind.i64.wrap n=n:=wrap_of (by simp[IntKind.min,IntKind.signed,IntKind.bits];try omega) (by simp[IntKind.max,IntKind.bits,IntKind.signed];omega)
theorem wrapNI64{a:Nat}(h:a<9223372036854775808):IntKind.i64.wrap (a:Int)=a:=wrapI64 (Int.natCast_nonneg _) (by omega)
theorem ltI64{a:Nat}(h:a<9223372036854775808):a<2^IntKind.i64.bits:=by simp[IntKind.bits];omega
theorem pure_andI64{T T':TypeId}{x y:Operand}{a b:Nat}(hx:Ev env x (.int .i64 (a:Int)))(hy:Ev env y (.int .i64 (b:Int)))(ha:a<9223372036854775808)(hb:b<9223372036854775808):APure P ⟨dst,.binOp .and T x y T',ty,pos,af,gd⟩ env (.int .i64 ((a&&&b:Nat):Int)):=
  pure_int2 hx hy λ_=>⟨_,.int _ _,λw=>by
    have h:(a&&&b)<9223372036854775808:=Nat.lt_of_le_of_lt Nat.and_le_left ha;have e:=(bits_nat (k:=.i64) (ltI64 ha) (ltI64 hb)).1;rw[wrapNI64 h]at e;rw[run_bits (by simp),e]⟩
theorem pure_quoI64{T T':TypeId}{x y:Operand}{a b:Nat}(hx:Ev env x (.int .i64 (a:Int)))(hy:Ev env y (.int .i64 (b:Int)))(ha:a<9223372036854775808)(hb:0<b):APure P ⟨dst,.binOp .quo T x y T',ty,pos,af,gd⟩ env (.int .i64 ((a/b:Nat):Int)):=by
  have h:=pure_quoW (P:=P) (dst:=dst) (T:=T) (T':=T') (ty:=ty) (pos:=pos) (af:=af) (gd:=gd) hx hy (by omega);have e:(a:Int).tdiv b=((a/b:Nat):Int):=by rw[Int.tdiv_eq_ediv_of_nonneg (by omega)];simp
  rwa[e,wrapNI64 (Nat.lt_of_le_of_lt (Nat.div_le_self a b) ha)]at h
theorem pure_remI64{T T':TypeId}{x y:Operand}{a b:Nat}(hx:Ev env x (.int .i64 (a:Int)))(hy:Ev env y (.int .i64 (b:Int)))(hb:0<b):APure P ⟨dst,.binOp .rem T x y T',ty,pos,af,gd⟩ env (.int .i64 ((a%b:Nat):Int)):=by
  have h:=pure_rem (P:=P) (dst:=dst) (T:=T) (T':=T') (ty:=ty) (pos:=pos) (af:=af) (gd:=gd) hx hy (by omega);have e:(a:Int).tmod b=((a%b:Nat):Int):=by rw[Int.tmod_eq_emod_of_nonneg (by omega)];simp
  rwa[e]at h
/-! ### conversions of numbers -/
theorem pure_convW{S D:TypeId}{x:Operand}{k k':IntKind}{n:Int}{u:TypeDesc}(hs:P.underlying S=some u)(hd:P.underlying D=some (.int k'))(hx:Ev env x (.int k n)):APure P ⟨dst,.convert S D x,ty,pos,af,gd⟩ env (.int k' (k'.wrap n)):=by
  intro g m a ka;obtain⟨v,he,hv⟩:=ev1 hx ka;cases hv
  refine⟨_,.int _ _,λw _=>?_⟩;simp[execOp,he,convert,underlying,hs,hd,Conv.intToInt]
theorem pure_convX{S D:TypeId}{x:Operand}{k k':IntKind}{n:Int}{u:TypeDesc}(hs:P.underlying S=some u)(hd:P.underlying D=some (.int k'))(hx:Ev env x (.int k n))(h:k'.wrap n=n):APure P ⟨dst,.convert S D x,ty,pos,af,gd⟩ env (.int k' n):=by
  have:=pure_convW (P:=P) (dst:=dst) (ty:=ty) (pos:=pos) (af:=af) (gd:=gd) hs hd hx
  rwa[h]at this
theorem pure_convM{S D:TypeId}{x:Operand}{k k':IntKind}{a:Nat}{u:TypeDesc}(hs:P.underlying S=some u)(hd:P.underlying D=some (.int k'))(hk:k'.signed=false)(hx:Ev env x (.int k (a:Int))):APure P ⟨dst,.convert S D x,ty,pos,af,gd⟩ env (.int k' ((a%2^k'.bits:Nat):Int)):=by
  have:=pure_convW (P:=P) (dst:=dst) (ty:=ty) (pos:=pos) (af:=af) (gd:=gd) hs hd hx;rw[uwrap hk]at this;simpa using this
/-! ### texts -/
theorem bmk(l:List UInt8):(⟨l.toArray⟩:ByteArray).size=l.length:=rfl
theorem pure_indexStr{T:TypeId}{x y:Operand}{s:List UInt8}{k:IntKind}{i:Int}(hu:P.underlying T=some .string)(hx:Ev env x (.str s))(hy:Ev env y (.int k i))(h0:0≤i)(h1:i<s.length):
    APure P ⟨dst,.index T x y,ty,pos,af,gd⟩ env (.int .u8 (((s.getD i.toNat 0).toNat:Nat):Int)):=by
  intro g n a ka;obtain⟨v,he,hv⟩:=ev1 hx ka;obtain⟨u,hf,hu'⟩:=ev1 hy ka;cases hv;cases hu'
  refine⟨_,.int _ _,λw _=>?_⟩;have hr:=run_index_string (P:=P) w T ⟨s.toArray⟩ k i hu;rw[dif_pos ⟨h0,by rw[bmk];exact h1⟩]at hr;have hl:i.toNat<s.length:=by omega
  have e:(⟨s.toArray⟩:ByteArray)[i.toNat]'(by rw[bmk];exact hl)=s.getD i.toNat 0:=by
    rw[List.getD_eq_getElem?_getD,List.getElem?_eq_getElem hl];rfl
  rw[e]at hr;simp[execOp,he,hf,hr]
theorem pure_sliceStr{T:TypeId}{x lo hi:Operand}{s:List UInt8}{k k':IntKind}{i j:Int}(hu:P.underlying T=some .string)(hx:Ev env x (.str s))(hl:Ev env lo (.int k i))(hh:Ev env hi (.int k' j))(h0:0≤i)(h1:i≤j)(h2:j≤s.length):
    APure P ⟨dst,.slice T x (some lo) (some hi) none,ty,pos,af,gd⟩ env (.str ((s.take j.toNat).drop i.toNat)):=by
  intro g n a ka;obtain⟨v,he,hv⟩:=ev1 hx ka;obtain⟨u,hf,hu'⟩:=ev1 hl ka;obtain⟨u2,hf2,hu2⟩:=ev1 hh ka;cases hv with
  |str s hs=>
  cases hu';cases hu2
  refine⟨.string ⟨((s.take j.toNat).drop i.toNat).toArray⟩,.str _ (by simp;omega),λw _=>?_⟩;have hr:=run_slice_string (P:=P) w T ⟨s.toArray⟩ k k' i j hu h0 h1 (by rw[bmk];exact h2);rw[ByteArray.extract_mk,←List.drop_take]at hr;simp[execOp,he,hf,hf2,run_sliceAt_string _ _ _ _ _ _ hu,hr]
theorem pure_sliceStrL{T:TypeId}{x lo:Operand}{s:List UInt8}{k:IntKind}{i:Int}(hu:P.underlying T=some .string)(hx:Ev env x (.str s))(hl:Ev env lo (.int k i))(h0:0≤i)(h1:i≤s.length):
    APure P ⟨dst,.slice T x (some lo) none none,ty,pos,af,gd⟩ env (.str (s.drop i.toNat)):=by
  intro g n a ka;obtain⟨v,he,hv⟩:=ev1 hx ka;obtain⟨u,hf,hu'⟩:=ev1 hl ka;cases hv with
  |str s hs=>
  cases hu'
  refine⟨.string ⟨(s.drop i.toNat).toArray⟩,.str _ (by simp;omega),λw _=>?_⟩;have hr:=run_slice_string_from_if (P:=P) w T ⟨s.toArray⟩ k i hu;rw[if_pos ⟨h0,by rw[bmk];exact h1⟩,ByteArray.extract_mk,List.take_of_length_le (by rw[bmk];simp)]at hr;simp[execOp,he,hf,run_sliceAt_string _ _ _ _ _ _ hu,hr]
theorem pure_sliceStrH{T:TypeId}{x hi:Operand}{s:List UInt8}{k:IntKind}{j:Int}(hu:P.underlying T=some .string)(hx:Ev env x (.str s))(hh:Ev env hi (.int k j))(h0:0≤j)(h1:j≤s.length):
    APure P ⟨dst,.slice T x none (some hi) none,ty,pos,af,gd⟩ env (.str (s.take j.toNat)):=by
  intro g n a ka;obtain⟨v,he,hv⟩:=ev1 hx ka;obtain⟨u,hf,hu'⟩:=ev1 hh ka;cases hv with
  |str s hs=>
  cases hu'
  refine⟨.string ⟨(s.take j.toNat).toArray⟩,.str _ (by simp;omega),λw _=>?_⟩;have hr:=run_slice_string_to_if (P:=P) w T ⟨s.toArray⟩ k j hu;rw[if_pos ⟨h0,by rw[bmk];exact h1⟩,ByteArray.extract_mk]at hr;simp[execOp,he,hf,run_sliceAt_string _ _ _ _ _ _ hu,hr]
end
end
end Go.Proofs.YtojblnldfdeefaaGreatDoor
namespace Go.Proofs.YtojblnldfdeefaaGreatDoor
open Go Go.RowKit
section
theorem Sat.new_row_at{g:G}{H:Heap}{w:World}(h:Sat g H w)(T:TypeId){cs:List AV}{vs:Array Value}{fz:Nat×Nat}(ht:Thaw vs.size fz)(hr:RelCells g cs vs):
    Sat g (H.set w.heap.size (.box T cs)) (w.alloc (.cells vs T fz)):=
  (h.alloc (.cells vs T fz)).claim (by have:=h.below.size;exact this) h.imm_new h.tok_new (.box T cs) ⟨vs,⟨fz,heap_alloc_new _ _,ht⟩,hr⟩
theorem relcells_rep{g:G}{n:Nat}{c:AV}{v:Value}(hr:RelV g c v):RelCells g (List.replicate n c) (Array.replicate n v):=by
  refine⟨by simp,λi x u hx hu=>?_⟩;simp only[List.getElem?_replicate]at hx;simp only[Array.getElem?_replicate]at hu;split at hx
  · rename_i hi;rw[if_pos hi]at hu;cases hx;cases hu;exact hr
  cases hx
section
variable{P:Program}{env:Env}{H:Heap}{dst:Option Tmp}{ty:TypeId}{pos:String}{af:Array Edge}{gd:Option (Nat×Bool)}
/-! ### new rows of numbers -/
theorem step_makeSlice{T E:TypeId}{l c:Operand}{k:IntKind}{m:Nat}{ti:TypeInfo}(hu:P.underlying T=some (.slice E))(hti:∀w,(typeInfo E).run P w= .ok ti w)(hs:∀w,(sizeOf E).run P w= .ok 1 w)(hz:∀w,(zeroValue E).run P w= .ok (.int k 0) w)
    (hl:Ev env l (.int .i64 (m:Int)))(hc:Ev env c (.int .i64 (m:Int)))(hb:ti.bytes≤64)(hm:m≤1000000000):
    AStep P ⟨dst,.makeSlice T l c,ty,pos,af,gd⟩ env H (λy H'=>∃b,y= .mslice (some ⟨b,0,none⟩) m m∧H.objs b=none∧H'=H.set b (.box E (List.replicate m (.int k 0)))):=by
  intro g n a w ka st;obtain⟨v1,he1,hv1⟩:=ev1 hl ka;obtain⟨v2,he2,hv2⟩:=ev1 hc ka;cases hv1;cases hv2
  have hun:∀w,(underlying T).run P w= .ok (.slice E) w:=λw=>run_underlying hu w;have w0:IntKind.i64.wrap ((m:Nat):Int)=(m:Int):=by simp[IntKind.wrap,IntKind.bits,IntKind.signed];omega
  have hbytes:ti.bytes*m≤64*1000000000:=Nat.mul_le_mul hb hm;have hrun:(execOp a.eval ⟨dst,.makeSlice T l c,ty,pos,af,gd⟩).run P w= .ok (.value (.slice (some ⟨w.heap.size,0,none⟩) m m)) (w.alloc (.cells (Array.replicate m (.int k 0)) E)):=by
    simp only[execOp,Instr.makeSlice,he1,he2];simp only[Sem.run_bind,hun,Result.andThen_ok,asInt,asIntOf,Sem.run_pure,hti,w0];have n1:¬((m:Int)<0):=by omega
    have n2:¬((281474976710656:Int)<(ti.bytes:Int)*(m:Int)):=by
      have:(ti.bytes:Int)*(m:Int)=((ti.bytes*m:Nat):Int):=by simp
      rw[this];omega
    have n5:¬(m*ti.bytes>roomBytes):=by unfold roomBytes;rw[Nat.mul_comm];omega
    have n6:¬((m:Int)<(m:Int)):=by omega
    simp[n1,n2,askRoom,n5,hs];by_cases e0:m=0
    · subst e0;simp[newRow];rw[show Array.range 0= #[]from rfl];simp
    simp[hz,newRow,e0];have:(Array.map (λx=>(Value.int k 0).cells[x%(Value.int k 0).cells.size]!) (Array.range m))=Array.replicate m (Value.int k 0):=by
      apply Array.ext
      · simp
      intro i h1 h2;simp[Value.cells,Nat.mod_one]
    have hzc:(Value.int k 0).cells.size=1:=rfl;rw[hzc]at this;simp only[hzc,this]
  rw[hrun];exact⟨g,_,_,.id,.mslice _ _ _,st.new_box E (relcells_rep (.int _ _)),_,rfl,st.new_none,rfl⟩
/-! ### ranging over a text -/
theorem run_getIter{w:World}{r p:Nat}{s:ByteArray}(h:w.heap[r]?=some (.stringIter s p)):(getObj r).run P w= .ok (.stringIter s p) w:=by simp[getObj,Sem.run,h]
theorem run_setIter{w:World}{r p:Nat}{s:ByteArray}(o:Obj)(h:w.heap[r]?=some (.stringIter s p)):(setObj r o).run P w= .ok () {w with heap:=w.heap.setIfInBounds r o}:=by simp[setObj,Sem.run,h]
end
end
section
def IsExt(P:Program)(f:FuncId)(e:Array Value→Sem Value):Prop:=
  ∃fn,P.funcs[f]?=some fn∧(fn.name=="runtime.NumGoroutine")=false∧fn.body.isNone=true∧Extern.findNext fn=none∧Extern.find fn=some e
theorem IsExt.run{P:Program}{f:FuncId}{e:Array Value→Sem Value}(h:IsExt P f e)(args:Array Value)(w:World):(callFunc f args).run P w=((e args).run P w).andThen λv w'=>.ok (.value v) w':=by
  obtain⟨fn,h1,h2,h3,h4,h5⟩:=h;exact run_callFunc_extern h1 h2 h3 h4 h5 args w
theorem RelVs.nil{g:G}{vs:List Value}(h:RelVs g [] vs):vs=[]:=by
  have:=h.1;cases vs with
  |nil=>rfl
  |cons=>simp at this
theorem RelVs.cons{g:G}{x:AV}{xs:List AV}{vs:List Value}(h:RelVs g (x::xs) vs):∃v us,vs=v::us∧RelV g x v∧RelVs g xs us:=by
  obtain⟨h1,h2⟩:=h;cases vs with
  |nil=>simp at h1
  |cons v us=>exact⟨v,us,rfl,h2 0 x v rfl rfl,by simpa using h1,λi y u hy hu=>h2 (i+1) y u (by simpa using hy) (by simpa using hu)⟩
theorem RelV.two{g:G}{x y:AV}{v u:Value}(h:RelV g x v)(k:RelV g y u):RelV g (.tuple [x,y]) (.tuple #[v,u]):=by
  refine .tuple _ _ rfl λi c z hc hz=>?_
  match i with
  |0=>simp at hc hz;subst hc;subst hz;exact h
  |1=>simp at hc hz;subst hc;subst hz;exact k
  |_+2=>simp at hc
section
variable{P:Program}{env:Env}{H:Heap}{dst:Option Tmp}{ty:TypeId}{pos:String}{af:Array Edge}{gd:Option (Nat×Bool)}
theorem step_ext{f:FuncId}{e:Array Value→Sem Value}{os:Array Operand}{xs:List AV}{ts:Array TypeId}{r:AV}(he:IsExt P f e)(ha:Evs env os.toList xs)
    (h:∀g vs w,RelVs g xs vs→∃v,(e vs.toArray).run P w= .ok v w∧RelV g r v):AStep P ⟨dst,.call {callee:=.value (.func f),args:=os,argTypes:=ts},ty,pos,af,gd⟩ env H (λy H'=>y=r∧H'=H):=by
  intro g n a w ka st;have hr:=ha.rel ka;obtain⟨v,hrun,hv⟩:=h g _ w hr;have e2:(os.toList.map a.eval).toArray=os.map a.eval:=by apply Array.ext';simp
  rw[e2]at hrun;have:(execOp a.eval ⟨dst,.call {callee:=.value (.func f),args:=os,argTypes:=ts},ty,pos,af,gd⟩).run P w= .ok (.value v) w:=by
    have:=he.run (os.map a.eval) w;rw[hrun]at this;simp[execOp,resolve,Deferred.ofValue,invoke];have e3:a.eval (.func f)= .func (.func f) #[] #[]:=rfl;simp[e3,this]
  rw[this];exact⟨g,r,H,.id,hv,st,rfl,rfl⟩
def seqFill:List (Nat×Nat)→Nat→Nat→List (Nat×AV)→Option (List AV)
  | [],_,_,[]=>some []
  |(off,size)::pl,k,o,(i,x)::qs=>if off=o∧i=k∧x.cells.length=size then(seqFill pl (k+1) (o+size) qs).map (x.cells++·)else none
  |_,_,_,_=>none
theorem fillA_seq{places:List (Nat×Nat)}{zs:List AV}:∀(pl:List (Nat×Nat))(k:Nat)(pre cs:List AV)(qs:List (Nat×AV)),places.drop k=pl→seqFill pl k pre.length qs=some cs→pre.length+cs.length=zs.length→
    fillA (places[·]?) (pre++zs.drop pre.length) qs=some (pre++cs)
  | [],k,pre,cs,[],_,h,hl=>by
    simp only[seqFill,Option.some.injEq]at h;subst h;simp only[List.length_nil,Nat.add_zero]at hl;rw[hl];simp[fillA]
  | [],k,pre,cs,q::qs,_,h,_=>by simp[seqFill]at h
  |p::pl,k,pre,cs,[],_,h,_=>by simp[seqFill]at h
  |(off,size)::pl,k,pre,cs,(i,x)::qs,hp,h,hl=>by
    simp only[seqFill]at h;split at h
    · rename_i hc
      obtain⟨rfl,rfl,hs⟩:=hc;obtain⟨ds,hd,rfl⟩:=Option.map_eq_some_iff.1 h;have hpl:places[i]?=some (pre.length,size):=by
        have:=congrArg (·[0]?) hp;simpa using this
      simp only[fillA,hpl];simp only[List.length_append]at hl;rw[if_pos ⟨hs,by simp;omega⟩];have e:putRow (pre++zs.drop pre.length) pre.length x.cells=(pre++x.cells)++zs.drop (pre++x.cells).length:=by
        simp[putRow,List.drop_append]
      rw[e];have:=fillA_seq (zs:=zs) pl (i+1) (pre++x.cells) ds qs (by rw[←List.drop_drop,hp];rfl) (by rw[List.length_append,hs];exact hd) (by simp;omega);rw[this,List.append_assoc]
    cases h
theorem pure_buildS{T:TypeId}{fs:Array Field}{ops:List (Nat×Operand)}{qs:List (Nat×AV)}{z:Value}{zs cs:List AV}(places:List (Nat×Nat))(hu:P.underlying T=some (.struct fs))(hz:∀w,(zeroValue T).run P w= .ok z w)
    (hzr:∀g,RelCells g zs z.cells)(hp:fs.toList.map (·.offset)=places.map (·.1))(hs:∀(i:Nat) f p,fs[i]?=some f→places[i]?=some p→∀w,(sizeOf f.type).run P w= .ok p.2 w)
    (hq:Parts env ops qs)(hf:seqFill places 0 0 qs=some cs)(hl:Nat.beq cs.length zs.length=true):APure P ⟨dst,.build T ops.toArray,ty,pos,af,gd⟩ env (.agg cs):=
  pure_build places hu hz hzr hp hs hq (by
    have:=fillA_seq (places:=places) (zs:=zs) places 0 [] cs qs rfl hf (by have:=Nat.eq_of_beq_eq_true hl;simpa using this);simpa using this)
theorem step_loadK{T:TypeId}{x:Operand}{b o:Nat}{c:AV}(ha:∀w,(isAgg T).run P w= .ok false w)(hx:Ev env x (.ptr (some ⟨b,o,none⟩)))(hk:∀W,Inv W→∃v,W.cell? ⟨b,o,none⟩=some v∧∀g,RelV g c v):
    AStep P ⟨dst,.load T x,ty,pos,af,gd⟩ env H (λy H'=>y=c∧H'=H):=by
  intro g n a w ka s;obtain⟨v,he,hv⟩:=ev1 hx ka;cases hv
  obtain⟨u,hu,hr⟩:=hk _ g.hinv;have hlt:b<g.base.heap.size:=World.block_lt_of_cell? _ (a:=⟨b,o,none⟩) hu;have hu':w.cell? ⟨b,o,none⟩=some u:=by rw[World.cell?_of_block (w:=g.base) (s.below.block b hlt)];exact hu
  have:(execOp a.eval ⟨dst,.load T x,ty,pos,af,gd⟩).run P w= .ok (.value u) w:=by simp[execOp,he,Instr.loadAt,Instr.sureAddr,loadVar,ha,hu']
  rw[this];exact⟨g,c,H,.id,hr g,s,rfl,rfl⟩
end
end
section
def U(k:IntKind)(xs:List Nat):List AV:=xs.map λa:Nat=>.int k (a:Int)
theorem U_len(k:IntKind)(xs:List Nat):(U k xs).length=xs.length:=List.length_map _
theorem U_get{k:IntKind}{xs:List Nat}{j:Nat}(h:j<xs.length):(U k xs)[j]?=some (.int k ((xs.getD j 0:Nat):Int)):=by
  unfold U;rw[List.getElem?_map,List.getD_eq_getElem?_getD,List.getElem?_eq_getElem h];rfl
theorem U_put{k:IntKind}{xs:List Nat}{j v:Nat}(h:j<xs.length):putRow (U k xs) j [.int k (v:Int)]=U k (xs.set j v):=by
  unfold putRow U;rw[List.map_set,List.set_eq_take_append_cons_drop,if_pos (by simpa using h)];simp
theorem U_row(k:IntKind)(xs:List Nat):∀x,x∈U k xs→x.row 1:=λx hx=>by
  obtain⟨a,_,rfl⟩:=List.mem_map.1 hx;exact⟨rfl,rfl⟩
theorem U_app(k:IntKind)(xs ys:List Nat):U k xs++U k ys=U k (xs++ys):=by simp[U]
section
variable{P:Program}{env:Env}{H:Heap}{dst:Option Tmp}{ty:TypeId}{pos:String}{af:Array Edge}{gd:Option (Nat×Bool)}
theorem AWP.seqToL{n:Fr}{Q:Exit→Env→Heap→Prop}{a b:Code}(ds:Env)(ks:List Nat)(ha:AWP P n a (λe env' H'=>e= .normal∧Env.sub (ds++Env.only ks env) env'∧H'=H) env H)(hb:AWP P n b Q (ds++Env.only ks env) H):AWP P n (.seq a b) Q env H:=by
  refine AWP.seq (ha.mono λe env' H' hq=>?_);obtain⟨rfl,hs,rfl⟩:=hq;exact hb.sub _ hs
theorem pure_lenU{T E:TypeId}{x:Operand}{k:IntKind}{xs:List Nat}{tl:Tail}(hu:P.underlying T=some (.slice E))(hx:Ev env x (.slice 1 (U k xs) tl)):
    APure P ⟨dst,.call {callee:=.builtin .len,args:= #[x],argTypes:= #[T]},ty,pos,af,gd⟩ env (.int .i64 (xs.length:Int)):=by
  have:=pure_lenS (P:=P) (dst:=dst) (ty:=ty) (pos:=pos) (af:=af) (gd:=gd) hu hx
  rwa[U_len]at this
theorem pure_indexU{T E:TypeId}{x i:Operand}{k k':IntKind}{xs:List Nat}{tl:Tail}{m:Int}(j:Nat)(hu:P.underlying T=some (.slice E))(hs:∀w,(sizeOf E).run P w= .ok 1 w)
    (hx:Ev env x (.slice 1 (U k xs) tl))(hi:Ev env i (.int k' m))(hj:m=(j:Int))(h:j<xs.length):APure P ⟨dst,.indexAddr T x i,ty,pos,af,gd⟩ env (.iptr [.int k ((xs.getD j 0:Nat):Int)]):=by
  subst hj;exact pure_indexS hu hs hx hi (Int.natCast_nonneg _) (U_get h)
theorem pure_indexW{T E:TypeId}{x i:Operand}{l c b:Nat}{k:IntKind}{m:Int}(j:Nat)(hu:P.underlying T=some (.slice E))(hs:∀w,(sizeOf E).run P w= .ok 1 w)
    (hx:Ev env x (.mslice (some ⟨b,0,none⟩) l c))(hi:Ev env i (.int k m))(hj:m=(j:Int))(h:j<l):APure P ⟨dst,.indexAddr T x i,ty,pos,af,gd⟩ env (.ptr (some ⟨b,j,none⟩)):=by
  subst hj;have:=pure_indexM (P:=P) (dst:=dst) (ty:=ty) (pos:=pos) (af:=af) (gd:=gd) hu hs hx hi (Int.natCast_nonneg _) (by omega)
  rwa[show 0+((j:Nat):Int).toNat*1=j by omega]at this
theorem pure_sliceHiU{T E:TypeId}{x i:Operand}{k k':IntKind}{xs:List Nat}{tl:Tail}{m:Int}(j:Nat)(hu:P.underlying T=some (.slice E))(hs:∀w,(sizeOf E).run P w= .ok 1 w)
    (hx:Ev env x (.slice 1 (U k xs) tl))(hi:Ev env i (.int k' m))(hj:m=(j:Int))(h:j≤xs.length):APure P ⟨dst,.slice T x none (some i) none,ty,pos,af,gd⟩ env (.slice 1 (U k (xs.take j)) .shared):=by
  subst hj;exact pure_sliceHiL (f:=λa:Nat=>AV.int k (a:Int)) hu hs hx hi (Int.natCast_nonneg _) (by simpa using h)
theorem pure_sliceLoU{T E:TypeId}{x i:Operand}{k k':IntKind}{xs:List Nat}{tl:Tail}{m:Int}(j:Nat)(hu:P.underlying T=some (.slice E))(hs:∀w,(sizeOf E).run P w= .ok 1 w)
    (hx:Ev env x (.slice 1 (U k xs) tl))(hi:Ev env i (.int k' m))(hj:m=(j:Int))(h:j≤xs.length):APure P ⟨dst,.slice T x (some i) none none,ty,pos,af,gd⟩ env (.slice 1 (U k (xs.drop j)) tl):=by
  subst hj;exact pure_sliceLoL (f:=λa:Nat=>AV.int k (a:Int)) hu hs hx hi (Int.natCast_nonneg _) (by simpa using h)
theorem step_loadU{T S:TypeId}{x:Operand}{b j:Nat}{k:IntKind}{xs:List Nat}(ha:∀w,(isAgg T).run P w= .ok false w)(hx:Ev env x (.ptr (some ⟨b,j,none⟩)))(hb:H.objs b=some (.box S (U k xs)))(h:j<xs.length):
    AStep P ⟨dst,.load T x,ty,pos,af,gd⟩ env H (λy H'=>y= .int k ((xs.getD j 0:Nat):Int)∧H'=H):=step_load1 ha hx hb (U_get h)
theorem step_storeU{T S:TypeId}{p x:Operand}{b j:Nat}{k:IntKind}{xs:List Nat}{v:Nat}(hs:∀w,(sizeOf T).run P w= .ok 1 w)(hp:Ev env p (.ptr (some ⟨b,j,none⟩)))(hx:Ev env x (.int k (v:Int)))(hb:H.objs b=some (.box S (U k xs)))(h:j<xs.length):
    AStep P ⟨dst,.store T p x,ty,pos,af,gd⟩ env H (λz H'=>z= .raw undef∧H'=H.set b (.box S (U k (xs.set j v)))):=by
  have:=step_store (P:=P) (dst:=dst) (ty:=ty) (pos:=pos) (af:=af) (gd:=gd) hs hp hx rfl rfl (.inl rfl) hb (by rw[U_len];omega)
  rwa[show AV.cells (.int k (v:Int))=[.int k (v:Int)]from rfl,U_put h]at this
theorem step_makeSliceU{T E:TypeId}{l c:Operand}{k:IntKind}{q q':Int}{ti:TypeInfo}(m:Nat)(hu:P.underlying T=some (.slice E))(hti:∀w,(typeInfo E).run P w= .ok ti w)(hs:∀w,(sizeOf E).run P w= .ok 1 w)(hz:∀w,(zeroValue E).run P w= .ok (.int k 0) w)
    (hl:Ev env l (.int .i64 q))(hc:Ev env c (.int .i64 q'))(hq:q=(m:Int))(hq':q'=(m:Int))(hb:ti.bytes≤64)(hm:m≤1000000000):
    AStep P ⟨dst,.makeSlice T l c,ty,pos,af,gd⟩ env H (λy H'=>∃b,y= .mslice (some ⟨b,0,none⟩) m m∧H.objs b=none∧H'=H.set b (.box E (U k (List.replicate m 0)))):=by
  subst hq;subst hq';have:=step_makeSlice (P:=P) (dst:=dst) (ty:=ty) (pos:=pos) (af:=af) (gd:=gd) (H:=H) hu hti hs hz hl hc hb hm;have e:U k (List.replicate m 0)=List.replicate m (.int k 0):=by simp[U]
  rw[e];exact this
theorem AWP.frzU{n:Fr}{Q:Exit→Env→Heap→Prop}{cd:Code}{t b l c:Nat}{T:TypeId}{k:IntKind}{xs:List Nat}(ht:env.get? t=some (.mslice (some ⟨b,0,none⟩) l c))(hb:H.objs b=none)(hl:l≤xs.length)(hlc:l≤c)(hc:c≤maxLen)
    (h:AWP P n cd Q ((t,.slice 1 (U k (xs.take l)) .shared)::env) H):AWP P n cd Q env (H.set b (.box T (U k xs))):=by
  intro g ac w ka s;obtain⟨v,hv,hr⟩:=ka.at_ t _ ht;obtain⟨vs,hrel,himm,hle,s'⟩:=s.freeze (Heap.objs_set_same H b (.box T (U k xs)));have e:(H.set b (.box T (U k xs))).drop b=H:=by
    simp only[Heap.drop,Heap.set];cases H with
    |mk objs toks=>
      simp only[Heap.mk.injEq,and_true]
      funext j
      split
      · rename_i h;subst h;exact hb.symm
      rfl
  rw[e]at s';have hr':v= .slice (some ⟨b,0,none⟩) l c:=by cases hr;rfl
  subst hr';have hget:∀i,(h:i<l)→vs[i]?=some (.int k (xs.getD i 0:Int)):=λi h=>by
    obtain⟨v,hv,hr⟩:=hrel.at (U_get (k:=k) (xs:=xs) (j:=i) (by omega));cases hr;exact hv
  have hlen:(U k (xs.take l)).length=l:=by rw[U_len,List.length_take];omega
  have hnew:RelV (g.addImm b λo=>vs[o]?) (.slice 1 (U k (xs.take l)) .shared) (.slice (some ⟨b,0,none⟩) l c):=by
    have:=RelV.slice (g:=g.addImm b λo=>vs[o]?) 1 (U k (xs.take l)) .shared b 0 c (λi=>vs.getD i undef) (U_row k _)
      (λi hi=>by
        have hi':i<l:=by omega
        rw[Nat.zero_add];exact himm i _ (by rw[hget i hi'];simp[hget i hi']))
      (λi j x c hx' hc=>by
        have hi:i<l:=by have:=(List.getElem?_eq_some_iff.1 hx').1;omega
        have hxi:x= .int k (xs.getD i 0:Int):=by
          rw[U_get (by simp;omega)]at hx';have:=Option.some.inj hx';rw[←this];simp[hi]
        subst hxi;cases j with
        |zero=>
          simp[AV.cells]at hc;subst hc;have:vs.getD (i*1+0) undef= .int k (xs.getD i 0:Int):=by simp[hget i hi]
          rw[this];exact .int _ _
        |succ j=>simp[AV.cells]at hc)
      (by omega) hc trivial
    rwa[hlen]at this
  have k':RelAct (g.addImm b λo=>vs[o]?) n ((t,.slice 1 (U k (xs.take l)) .shared)::env) ac:=by
    refine⟨ka.size,ka.defers,λt' x hx=>?_⟩;simp only[Env.get?]at hx;cases hb:Nat.beq t t' with
    |true=>
      rw[hb]at hx;have:t=t':=Nat.eq_of_beq_eq_true hb;subst this;cases hx
      exact⟨_,hv,hnew⟩
    |false=>
      rw[hb]at hx;obtain⟨u,hu,hru⟩:=ka.at_ t' x hx;exact⟨u,hu,hru.mono hle⟩
  exact wp_mono (h _ ac w k' s') λ_ _ _ hq=>hq.up hle
end
end
section
section
variable{P:Program}{n:Fr}{ops:Array Oper}
def XTwo(P:Program)(n:Fr)(ops:Array Oper)(Q:Exit→Env→Heap→Prop)(i:Nat)(r:List (Nat×Bool))(env:Env)(H:Heap):Prop:=
  XOp P n ops i (APlan P n ops Q r) env H
theorem XTwo.s{Q:Exit→Env→Heap→Prop}{i:Nat}{r:List (Nat×Bool)}{env:Env}{H:Heap}{op:Op}{ty:TypeId}{pos:String}{af:Array Edge}{d:Tmp}{R:AV→Heap→Prop}(hi:ops[i]?=some ⟨some d,op,ty,pos,af,none⟩)(hd:Nat.blt d n.size=true)(h:AStep P ⟨some d,op,ty,pos,af,none⟩ (Env.only (Oper.looksAt ops ⟨some d,op,ty,pos,af,none⟩) env) H R)
    (k:∀x H',R x H'→APlan P n ops Q r ((d,x)::env) H'):XTwo P n ops Q i r env H:=
  ⟨_,hi,hd,.inr ⟨.free rfl,R,h,k⟩⟩
theorem Heap.set_comm{H:Heap}{b c:Nat}(h:b≠c)(x y:AObj):(H.set b x).set c y=(H.set c y).set b x:=by
  cases H with
  |mk objs toks=>
    simp only[Heap.set];congr 1
    funext k
    by_cases h1:k=c
    · subst h1;simp[Ne.symm h]
    by_cases h2:k=b
    · subst h2;simp[h]
    simp[h1,h2]
theorem Heap.fresh_ne{H:Heap}{b c:Nat}{x:AObj}(h:(H.set b x).objs c=none):b≠c:=by
  intro e;subst e;rw[Heap.objs_set_same]at h;cases h
end
end
section
section
variable{P:Program}{env:Env}{H:Heap}{dst:Option Tmp}{ty:TypeId}{pos:String}{af:Array Edge}{gd:Option (Nat×Bool)}
theorem AWP.frzUF{n:Fr}{Q:Exit→Env→Heap→Prop}{cd:Code}{t b l c:Nat}{T:TypeId}{k:IntKind}{xs:List Nat}(ht:env.get? t=some (.mslice (some ⟨b,0,none⟩) l c))(hb:H.objs b=none)(hl:l≤xs.length)(hlc:l=c)(hc:c≤maxLen)
    (h:AWP P n cd Q ((t,.slice 1 (U k (xs.take l)) .full)::env) H):AWP P n cd Q env (H.set b (.box T (U k xs))):=by
  intro g ac w ka s;obtain⟨v,hv,hr⟩:=ka.at_ t _ ht;obtain⟨vs,hrel,himm,hle,s'⟩:=s.freeze (Heap.objs_set_same H b (.box T (U k xs)));have e:(H.set b (.box T (U k xs))).drop b=H:=by
    simp only[Heap.drop,Heap.set];cases H with
    |mk objs toks=>
      simp only[Heap.mk.injEq,and_true]
      funext j
      split
      · grind
      rfl
  rw[e]at s';have hr':v= .slice (some ⟨b,0,none⟩) l c:=by cases hr;rfl
  subst hr';have hget:∀i,(h:i<l)→vs[i]?=some (.int k (xs.getD i 0:Int)):=λi h=>by
    obtain⟨v,hv,hr⟩:=hrel.at (U_get (k:=k) (xs:=xs) (j:=i) (by omega));cases hr;exact hv
  have hlen:(U k (xs.take l)).length=l:=by rw[U_len,List.length_take];omega
  have hnew:RelV (g.addImm b λo=>vs[o]?) (.slice 1 (U k (xs.take l)) .full) (.slice (some ⟨b,0,none⟩) l c):=by
    have:=RelV.slice (g:=g.addImm b λo=>vs[o]?) 1 (U k (xs.take l)) .full b 0 c (λi=>vs.getD i undef) (U_row k _)
      (λi hi=>by
        have hi':i<l:=by omega
        rw[Nat.zero_add];exact himm i _ (by rw[hget i hi'];simp[hget i hi']))
      (λi j x c hx' hc=>by
        have hi:i<l:=by have:=(List.getElem?_eq_some_iff.1 hx').1;omega
        have hxi:x= .int k (xs.getD i 0:Int):=by
          rw[U_get (by simp;omega)]at hx';have:=Option.some.inj hx';rw[←this];simp[hi]
        subst hxi;cases j with
        |zero=>
          simp[AV.cells]at hc;subst hc;have:vs.getD (i*1+0) undef= .int k (xs.getD i 0:Int):=by simp[hget i hi]
          rw[this];exact .int _ _
        |succ j=>simp[AV.cells]at hc)
      (by omega) hc (by show(c-_)*1=0;omega)
    rwa[hlen]at this
  have k':RelAct (g.addImm b λo=>vs[o]?) n ((t,.slice 1 (U k (xs.take l)) .full)::env) ac:=by
    refine⟨ka.size,ka.defers,λt' x hx=>?_⟩;simp only[Env.get?]at hx;cases hb:Nat.beq t t' with
    |true=>
      rw[hb]at hx;have:t=t':=Nat.eq_of_beq_eq_true hb;subst this;cases hx
      exact⟨_,hv,hnew⟩
    |false=>
      rw[hb]at hx;obtain⟨u,hu,hru⟩:=ka.at_ t' x hx;exact⟨u,hu,hru.mono hle⟩
  exact wp_mono (h _ ac w k' s') λ_ _ _ hq=>hq.up hle
theorem append_new{T T' E:TypeId}{x y:Operand}{k:IntKind}{xs ys:List Nat}{ti:TypeInfo}{g:G}{w:World}{a:Act}{vx vy:Value}{us os:Array Value}(hu:P.underlying T=some (.slice E))(hu':P.underlying T'=some (.slice E))
    (hs:∀w,(sizeOf E).run P w= .ok 1 w)(hti:∀w,(typeInfo E).run P w= .ok ti w)(hz:∀w,(zeroValue E).run P w= .ok (.int k 0) w)(hb0:ti.bytes≠0)
    (hex:a.eval x=vx)(hey:a.eval y=vy)(s:Sat g H w)(hvx:∃p,vx= .slice p xs.length xs.length)(hlenY:Builtin.lenOf vy=(pure ys.length:Sem Nat))(hus:RelCells g (U k ys) us)(hos:RelCells g (U k xs) os)
    (hfirst:∀w',w'.heap=w.heap→(Builtin.firstCells 1 ys.length vy).run P w'= .ok us w')(hfirstX:∀w',w'.heap=w.heap→(Builtin.firstCells 1 xs.length vx).run P w'= .ok os w')(hfit:(xs.length+ys.length)*ti.bytes≤140737488355328)(hpos:0<ys.length):
    YieldsTo P (λv w'=>∃g' r H',g.le g'∧RelV g' r v∧Sat g' H' w'∧∃b c,r= .mslice (some ⟨b,0,none⟩) (xs++ys).length c∧H.objs b=none∧(xs++ys).length≤c∧c≤maxLen∧H'=H.set b (.box E (U k ((xs++ys)++List.replicate (c-(xs++ys).length) 0))))
      ((execOp a.eval ⟨dst,.call {callee:=.builtin .append,args:= #[x,y],argTypes:= #[T,T']},ty,pos,af,gd⟩).run P w):=by
  obtain⟨p,rfl⟩:=hvx;rw[List.length_append];have husz:us.size=ys.length:=by rw[←hus.1,U_len]
  have hosz:os.size=xs.length:=by rw[←hos.1,U_len]
  have hgrow:=growslice_fits (bytes:=ti.bytes) (show xs.length<xs.length+ys.length by omega) hfit
  let nc:=(Question.appendCap (xs.length+ys.length) xs.length E).cut (w.tape w.drawn (.appendCap (xs.length+ys.length) xs.length E))
  have hneed:xs.length+ys.length≤140737488355328:=Nat.le_trans (Nat.le_mul_of_pos_right _ (Nat.pos_of_ne_zero hb0)) hfit;have hnc:xs.length+ys.length≤nc∧nc≤maxLen:=by
    show xs.length+ys.length≤xs.length+ys.length+_%(2^63-(xs.length+ys.length))∧_;refine⟨Nat.le_add_right _ _,?_⟩;show xs.length+ys.length+w.tape w.drawn (.appendCap (xs.length+ys.length) xs.length E)%(2^63-(xs.length+ys.length))≤maxLen;have:w.tape w.drawn (.appendCap (xs.length+ys.length) xs.length E)%(2^63-(xs.length+ys.length))<2^63-(xs.length+ys.length):=Nat.mod_lt _ (by omega);unfold maxLen;omega
  let row:Array Value:=os++us++Builtin.zeroCells (Value.cells (.int k 0)) (nc-(xs.length+ys.length))
  have hcz:(Value.cells (.int k 0)).size=1:=rfl;have hrun:(execOp a.eval ⟨dst,.call {callee:=.builtin .append,args:= #[x,y],argTypes:= #[T,T']},ty,pos,af,gd⟩).run P w= .ok (.value (.slice (some ⟨w.heap.size,0,none⟩) (xs.length+ys.length) nc)) (w.drew.alloc (.cells row E)):=by
    have i2':=hfirst w.drew rfl;have i1':=hfirstX w.drew rfl;have hforced:(Question.appendCap (xs.length+ys.length) xs.length E).forced=false:=rfl;have hnot2:¬(Builtin.nextslicecap (xs.length+ys.length) xs.length*ti.bytes>2^48):=by simpa using hgrow
    have hne:ys≠[]:=by intro h;subst h;simp at hpos
    have hnot1:¬(xs.length+ys.length≤xs.length):=by omega
    have hl0:Builtin.lenOf (.slice p xs.length xs.length)=(pure xs.length:Sem Nat):=rfl;simp only[execCall_builtin,builtin,Builtin.append_];simp[hex,hey,underlying,hu,hu',hs,hlenY,hnot1,hti,hb0,hforced,hz,newRow];rw[if_neg (by simpa using hnot2)];rw[i1'];simp only[Result.andThen_ok];rw[i2'];simp only[Result.andThen_ok];rw[←Array.append_assoc];rfl
  rw[hrun];have hrel:RelCells g (U k ((xs++ys)++List.replicate (nc-(xs.length+ys.length)) 0)) row:=by
    rw[←U_app,←U_app];refine(hos.append hus).append ?_;have e:U k (List.replicate (nc-(xs.length+ys.length)) 0)=List.replicate (nc-(xs.length+ys.length)) (.int k 0):=by simp[U]
    have e2:Builtin.zeroCells (Value.cells (.int k 0)) (nc-(xs.length+ys.length))=Array.replicate (nc-(xs.length+ys.length)) (.int k 0):=by
      apply Array.ext
      · simp[Builtin.zeroCells,hcz]
      intro i h1 h2;simp[Builtin.zeroCells,Value.cells,Nat.mod_one]
    rw[e,e2];exact relcells_rep (.int _ _)
  have s1:Sat g H w.drew:=s.drew;exact⟨g,.mslice (some ⟨w.heap.size,0,none⟩) (xs.length+ys.length) nc,_,.id,.mslice _ _ _,s1.new_row_at E (.inl rfl) hrel,w.heap.size,nc,rfl,s.new_none,hnc.1,hnc.2,rfl⟩
theorem U_flat(k:IntKind)(ys:List Nat):(U k ys).flatMap AV.cells=U k ys:=by
  unfold U;induction ys with
  |nil=>rfl
  |cons z zs ih=>rw[List.map_cons,List.flatMap_cons,ih];rfl
theorem step_appendN{T T' E:TypeId}{x y:Operand}{k:IntKind}{xs ys:List Nat}{tl':Tail}{ti:TypeInfo}(hu:P.underlying T=some (.slice E))(hu':P.underlying T'=some (.slice E))
    (hs:∀w,(sizeOf E).run P w= .ok 1 w)(hti:∀w,(typeInfo E).run P w= .ok ti w)(hz:∀w,(zeroValue E).run P w= .ok (.int k 0) w)(hb0:ti.bytes≠0)
    (hx:Ev env x (.slice 1 (U k xs) .full))(hy:Ev env y (.slice 1 (U k ys) tl'))(hfit:(xs.length+ys.length)*ti.bytes≤140737488355328)(hpos:0<ys.length):
    AStep P ⟨dst,.call {callee:=.builtin .append,args:= #[x,y],argTypes:= #[T,T']},ty,pos,af,gd⟩ env H (λr H'=>∃b c,r= .mslice (some ⟨b,0,none⟩) (xs++ys).length c∧H.objs b=none∧(xs++ys).length≤c∧c≤maxLen∧H'=H.set b (.box E (U k ((xs++ys)++List.replicate (c-(xs++ys).length) 0)))):=by
  intro g n a w ka s;obtain⟨vx,hex,hvx⟩:=ev1 hx ka;obtain⟨vy,hey,hvy⟩:=ev1 hy ka;obtain⟨us,hus,hlenY,hfirst⟩:=first_cells (P:=P) hvy (U_row k ys);obtain⟨os,hos,_,hfirstX⟩:=first_cells (P:=P) hvx (U_row k xs);have hp:∃p,vx= .slice p xs.length xs.length:=by
    generalize hq:U k xs=ws at hvx;have hl:ws.length=xs.length:=by rw[←hq,U_len]
    cases hvx with
    |nilSlice=>simp at hl;exact⟨none,by rw[←hl]⟩
    |slice sz xs tl b off cap vs hsz hi hr hlen hcap htl=>
      have:(cap-ws.length)*1=0:=htl;exact⟨some ⟨b,off,none⟩,by rw[show cap=ws.length by omega,hl]⟩
  rw[U_flat]at hus hos;rw[U_len]at hlenY;have imm:∀w':World,w'.heap=w.heap→∀b k u,g.imm b k=some u→w'.cell? ⟨b,k,none⟩=some u:=λw' hw b k u hu=>by
    have:=s.imm b k u hu;unfold World.cell? at this ⊢;rw[hw];exact this
  exact append_new hu hu' hs hti hz hb0 hex hey s hp hlenY hus hos (λw' hw=>by
    have:=hfirst w' (imm w' hw)
    rwa[U_len]at this) (λw' hw=>by
    have:=hfirstX w' (imm w' hw)
    rwa[U_len]at this) hfit hpos
theorem step_appendM{T T' E:TypeId}{x y:Operand}{k:IntKind}{ys:List Nat}{tl':Tail}{ti:TypeInfo}(hu:P.underlying T=some (.slice E))(hu':P.underlying T'=some (.slice E))
    (hs:∀w,(sizeOf E).run P w= .ok 1 w)(hti:∀w,(typeInfo E).run P w= .ok ti w)(hz:∀w,(zeroValue E).run P w= .ok (.int k 0) w)(hb0:ti.bytes≠0)
    (hx:Ev env x (.slice 1 [] .full))(hy:Ev env y (.slice 1 (U k ys) tl'))(hfit:ys.length*ti.bytes≤140737488355328)(hpos:0<ys.length):
    AStep P ⟨dst,.call {callee:=.builtin .append,args:= #[x,y],argTypes:= #[T,T']},ty,pos,af,gd⟩ env H (λr H'=>∃b c,r= .mslice (some ⟨b,0,none⟩) ys.length c∧H.objs b=none∧ys.length≤c∧c≤maxLen∧H'=H.set b (.box E (U k (ys++List.replicate (c-ys.length) 0)))):=
  step_appendN (xs:=[]) hu hu' hs hti hz hb0 hx hy (by simpa using hfit) hpos
end
end
section
section
variable{P:Program}{env:Env}{H:Heap}{dst:Option Tmp}{ty:TypeId}{pos:String}{af:Array Edge}{gd:Option (Nat×Bool)}
theorem pure_buildA{T E:TypeId}{N sz:Nat}{ops:List (Nat×Operand)}{qs:List (Nat×AV)}{z:Value}{zs cs:List AV}(hu:P.underlying T=some (.array N E))(hE:∀w,(sizeOf E).run P w= .ok sz w)(hz:∀w,(zeroValue T).run P w= .ok z w)
    (hzr:∀g,RelCells g zs z.cells)(hq:Parts env ops qs)(hf:fillA (λi=>some (i*sz,sz)) zs qs=some cs):APure P ⟨dst,.build T ops.toArray,ty,pos,af,gd⟩ env (.agg cs):=by
  intro g n a ka;obtain⟨h1,h2⟩:=hq.rel ka;obtain⟨us,h3,h4⟩:=(hzr g).fill h1 h2 hf;refine⟨.agg us,.agg cs us h4.1 h4.2,λw _=>?_⟩;simp[execOp,Instr.build,hz,underlying,hu,hE,h3]
theorem pure_indexV{T E:TypeId}{x i:Operand}{N:Nat}{cs:List AV}{k:IntKind}{m:Int}{y:AV}(hu:P.underlying T=some (.array N E))(ha:∀w,(isAgg E).run P w= .ok false w)(hs:∀w,(sizeOf E).run P w= .ok 1 w)
    (hx:Ev env x (.agg cs))(hi:Ev env i (.int k m))(h0:0≤m)(hm:m<N)(hy:cs[m.toNat]?=some y):APure P ⟨dst,.index T x i,ty,pos,af,gd⟩ env y:=by
  intro g n a ka;obtain⟨v,hev,hv⟩:=ev1 hx ka;obtain⟨u,hfu,hu'⟩:=ev1 hi ka;cases hu'
  cases hv with
  |agg cs vs hn hr=>
    obtain⟨z,hz,hrz⟩:=RelCells.at ⟨hn,hr⟩ hy;refine⟨z,hrz,λw _=>?_⟩;simp[execOp,hev,hfu,Instr.index,asIntOf,underlying,hu,hs,h0,hm,part,ha,hz]
end
theorem Sat.setCell{g:G}{H:Heap}{w:World}(s:Sat g H w){b o:Nat}{T:TypeId}{cs:List AV}{y:AV}{v:Value}(hb:H.objs b=some (.box T cs))(_:o<cs.length)(hr:RelV g y v):
    Sat g (H.set b (.box T (cs.set o y))) (w.setCell ⟨b,o,none⟩ v):=by
  obtain⟨vs,⟨fz,hw,hth⟩,hrel⟩:=s.box b T cs hb;rw[setCell_eq_setRow w b o vs T fz v hw];refine s.turn hb (λj hj=>setRow_other w b j _ hj) (by simp) rfl rfl rfl ⟨_,⟨fz,setRow_heap w b vs _ T fz hw,?_⟩,hrel.set o hr⟩;rw[Array.size_setIfInBounds];exact hth
end
section
def SteadyI(I:Heap→Prop)(P:Program)(ops:Array Oper)(o:Oper)(env:Env)(x:AV):Prop:=
  (Wanted ops (Env.only (o.looksAt ops) env) o true∧∀H,I H→AStep P o (Env.only (o.looksAt ops) env) H (λy H'=>y=x∧H'=H))∨(Wanted ops (Env.only (o.looksAt ops) env) o false∧x= .raw undef)
section
variable{P:Program}{n:Fr}{ops:Array Oper}{I:Heap→Prop}
def XOpI(I:Heap→Prop)(P:Program)(n:Fr)(ops:Array Oper)(i:Nat)(K:Env→Heap→Prop)(env:Env)(H:Heap):Prop:=
  ∃o,ops[i]?=some o∧fits n o.dst=true∧((Wanted ops (Env.only (o.looksAt ops) env) o false∧K (env.put o.dst (.raw undef)) H)∨
    (Wanted ops (Env.only (o.looksAt ops) env) o true∧∃R,AStep P o (Env.only (o.looksAt ops) env) H R∧∀x H',R x H'→I H'∧K (env.put o.dst x) H'))
theorem XOpI.mono{i:Nat}{K K':Env→Heap→Prop}{env:Env}{H:Heap}(hI:I H)(h:∀e H,I H→K e H→K' e H)(k:XOpI I P n ops i K env H):XOpI I P n ops i K' env H:=by
  obtain⟨o,h1,h2,h3⟩:=k;exact⟨o,h1,h2,h3.imp (λ⟨a,b⟩=>⟨a,h _ _ hI b⟩) (λ⟨a,R,b,c⟩=>⟨a,R,b,λx H' hr=>⟨(c x H' hr).1,h _ _ (c x H' hr).1 (c x H' hr).2⟩⟩)⟩
def XAnyI(I:Heap→Prop)(P:Program)(n:Fr)(ops:Array Oper)(Q:Env→Heap→Prop):Nat→Array Bool→Env→Heap→Prop
  |0,listed,env,H=>Region.ready .any ops listed=[]∧∃e,e.eqv env∧Q e H
  |fuel+1,listed,env,H=>(Region.ready .any ops listed=[]→∃e,e.eqv env∧Q e H)∧∀i∈Region.ready .any ops listed,XOpI I P n ops i (XAnyI I P n ops Q fuel (listed.setIfInBounds i true)) env H
theorem XAnyI.any{Q:Env→Heap→Prop}:∀(fuel:Nat)(listed:Array Bool)(env:Env)(H:Heap),XAnyI I P n ops Q fuel listed env H→XAny P n ops Q fuel listed env H
  |0,_,_,_,h=>h
  |fuel+1,_,_,_,⟨h0,h1⟩=>⟨h0,λi hi=>by
    obtain⟨o,a,b,c⟩:=h1 i hi;exact⟨o,a,b,c.imp (λ⟨p,q⟩=>⟨p,XAnyI.any fuel _ _ _ q⟩) (λ⟨p,R,q,r⟩=>⟨p,R,q,λx H' hr=>XAnyI.any fuel _ _ _ (r x H' hr).2⟩)⟩⟩
theorem XOpI.eqv{i:Nat}{K:Env→Heap→Prop}{e e':Env}{H:Heap}(h:e.eqv e')(hK:∀e e' H,e.eqv e'→K e H→K e' H)(k:XOpI I P n ops i K e H):XOpI I P n ops i K e' H:=by
  obtain⟨o,h1,h2,h3⟩:=k;have ho:Env.only (o.looksAt ops) e=Env.only (o.looksAt ops) e':=only_congr λt _=>h t;rw[ho]at h3;exact⟨o,h1,h2,h3.imp (λ⟨a,b⟩=>⟨a,hK _ _ _ (h.put _ _) b⟩) (λ⟨a,R,b,c⟩=>⟨a,R,b,λx H' hr=>⟨(c x H' hr).1,hK _ _ _ (h.put _ _) (c x H' hr).2⟩⟩)⟩
theorem XAnyI.eqv{Q:Env→Heap→Prop}:∀(fuel:Nat)(listed:Array Bool)(e e':Env)(H:Heap),e.eqv e'→XAnyI I P n ops Q fuel listed e H→XAnyI I P n ops Q fuel listed e' H
  |0,_,_,_,_,h,⟨h0,e0,h1,h2⟩=>⟨h0,e0,λt=>(h1 t).trans (h t),h2⟩
  |fuel+1,_,_,_,_,h,⟨h0,h1⟩=>⟨λhr=>let⟨e0,q1,q2⟩:=h0 hr;⟨e0,λt=>(q1 t).trans (h t),q2⟩,λi hi=>(h1 i hi).eqv h λe e' H he hk=>XAnyI.eqv fuel _ e e' H he hk⟩
theorem SteadyI.xop{i:Nat}{o:Oper}{x:AV}{env:Env}{H:Heap}(hI:I H)(hi:ops[i]?=some o)(hd:fits n o.dst=true)(h:SteadyI I P ops o env x){K:Env→Heap→Prop}(k:K (env.put o.dst x) H):XOpI I P n ops i K env H:=by
  rcases h with⟨hw,hf⟩|⟨hw,rfl⟩
  · exact⟨o,hi,hd,.inr ⟨hw,_,hf H hI,λy H' ⟨e1,e2⟩=>by subst e1;subst e2;exact⟨hI,k⟩⟩⟩
  exact⟨o,hi,hd,.inl ⟨hw,k⟩⟩
theorem SteadyI.same{o:Oper}{x:AV}{e e':Env}(h:∀t,t∈o.looksAt ops→e.get? t=e'.get? t)(k:SteadyI I P ops o e x):SteadyI I P ops o e' x:=by
  unfold SteadyI at *;rw[only_congr h]at k;exact k
theorem XOpI.put{j:Nat}{oi oj:Oper}{x:AV}(hj:ops[j]?=some oj)(hap:oi.apart ops oj=true){K:Env→Heap→Prop}(hK:∀e e' H,e.eqv e'→K e H→K e' H){env:Env}{H:Heap}(hy:SteadyI I P ops oi env x)(h:XOpI I P n ops j K (env.put oi.dst x) H):
    XOpI I P n ops j (λe H'=>SteadyI I P ops oi e x∧K (e.put oi.dst x) H') env H:=by
  obtain⟨h1,h2,h3⟩:=Oper.apart_spec hap;obtain⟨o,ho,hd,hc⟩:=h;have:o=oj:=Option.some.inj (ho.symm.trans hj);subst this;have e1:Env.only (o.looksAt ops) (env.put oi.dst x)=Env.only (o.looksAt ops) env:=only_congr λt ht=>get_put_ne _ _ (λe=>h1 t e ht);rw[e1]at hc;have keep:∀u,SteadyI I P ops oi (env.put o.dst u) x:=λu=>hy.same λt ht=>(get_put_ne _ _ (λe=>h3 t e ht)).symm;have sw:∀u,((env.put oi.dst x).put o.dst u).eqv ((env.put o.dst u).put oi.dst x):=λu=>Env.put_swap env x u h2;exact⟨o,ho,hd,hc.imp (λ⟨a,b⟩=>⟨a,keep _,hK _ _ _ (sw _) b⟩) (λ⟨a,R,b,c⟩=>⟨a,R,b,λy H' hr=>⟨(c y H' hr).1,keep _,hK _ _ _ (sw _) (c y H' hr).2⟩⟩)⟩
theorem XAnyI_first{Q:Env→Heap→Prop}{i:Nat}{oi:Oper}{x:AV}(hi:ops[i]?=some oi)(hd:fits n oi.dst=true):
    ∀(fuel:Nat)(listed:Array Bool)(env:Env)(H:Heap),I H→
      (∀j oj,ops[j]?=some oj→j≠i→listed.getD j true=false→(∀e∈oj.after,Region.binds .any e=true→e.on≠i)→oi.apart ops oj=true)→
      i∈Region.ready .any ops listed→SteadyI I P ops oi env x→
      XAnyI I P n ops Q fuel (listed.setIfInBounds i true) (env.put oi.dst x) H→XAnyI I P n ops Q (fuel+1) listed env H:=by
  intro fuel;induction fuel with
  |zero=>
    intro listed env H hI _ hr hy hC;refine⟨λh=>(by rw[h]at hr;cases hr),λj hj=>?_⟩;by_cases hji:j=i
    · subst hji;exact hy.xop hI hi hd hC
    have:=ready_mono hj hji;rw[hC.1]at this;cases this
  |succ fuel ih=>
    intro listed env H hI hfree hr hy hC;refine⟨λh=>(by rw[h]at hr;cases hr),λj hj=>?_⟩;by_cases hji:j=i
    · subst hji;exact hy.xop hI hi hd hC
    have h1:=hC.2 j (ready_mono hj hji);obtain⟨hjun,oj,hoj,hall⟩:=mem_ready.1 hj;have hnot:∀e∈oj.after,Region.binds .any e=true→e.on≠i:=λe he hb heq=>by
      have h1:=hall e he hb;have h0:=(mem_ready.1 hr).1;rw[heq]at h1;rcases Nat.lt_or_ge i listed.size with h'|h'
      · simp[h']at h0 h1;rw[h0]at h1;cases h1
      simp[Array.getElem?_eq_none h']at h1
    have h2:=XOpI.put hoj (hfree j oj hoj hji hjun hnot) (λe e' H he hk=>XAnyI.eqv fuel _ e e' H he hk) hy h1;have hfree':∀k ok,ops[k]?=some ok→k≠i→(listed.setIfInBounds j true).getD k true=false→
        (∀e∈ok.after,Region.binds .any e=true→e.on≠i)→oi.apart ops ok=true:=λk ok hk hki hun hno=>by
      refine hfree k ok hk hki ?_ hno;by_cases hjk:j=k
      · subst hjk;exact hjun
      rw[getD_set_ne true hjk]at hun;exact hun
    refine XOpI.mono hI (λe H' hI' h3=>ih (listed.setIfInBounds j true) e H' hI' hfree' (ready_mono hr (Ne.symm hji)) h3.1 ?_) h2;rw[Array.setIfInBounds_comm _ _ hji];exact h3.2
def APlanI(I:Heap→Prop)(P:Program)(n:Fr)(ops:Array Oper)(Q:Exit→Env→Heap→Prop):List (Nat×Bool)→Env→Heap→Prop
  | [],env,H=>Q .normal env H
  |(i,p)::r,env,H=>∃o,ops[i]?=some o∧fits n o.dst=true∧
      ((p=true∧∃x,SteadyI I P ops o env x∧APlanI I P n ops Q r (env.put o.dst x) H)∨
       (p=false∧Wanted ops (Env.only (o.looksAt ops) env) o true∧∃R,AStep P o (Env.only (o.looksAt ops) env) H R∧∀x H',R x H'→I H'∧APlanI I P n ops Q r (env.put o.dst x) H'))
theorem XAnyI_of_plan{Q:Exit→Env→Heap→Prop}:∀(r:List (Nat×Bool))(listed:Array Bool)(env:Env)(H:Heap),I H→planB ops r listed=true→APlanI I P n ops Q r env H→XAnyI I P n ops (Q .normal) r.length listed env H
  | [],listed,env,H,_,hB,h=>⟨by simpa[planB]using hB,env,λ_=>rfl,h⟩
  |(i,p)::r,listed,env,H,hI,hB,h=>by
    obtain⟨o,hi,hd,hcase⟩:=h;simp only[planB,Bool.and_eq_true]at hB;obtain⟨hB1,hB2⟩:=hB;rcases hcase with⟨rfl,x,hx,hk⟩|⟨rfl,hw,R,hx,hk⟩
    · simp only[if_true,Bool.and_eq_true]at hB1;exact XAnyI_first hi hd r.length listed env H hI (Region.free_spec hi hB1.2) (by simpa using hB1.1) hx (XAnyI_of_plan r _ _ H hI hB2 hk)
    simp only[Bool.false_eq_true,if_false,beq_iff_eq]at hB1;refine⟨λh0=>(by rw[hB1]at h0;cases h0),λj hj=>?_⟩;rw[hB1]at hj;have hji:j=i:=by simpa using hj
    subst hji;exact⟨o,hi,hd,.inr ⟨hw,R,hx,λy H' hR=>⟨(hk y H' hR).1,XAnyI_of_plan r _ _ H' (hk y H' hR).1 hB2 (hk y H' hR).2⟩⟩⟩
theorem AWP.drawI(I:Heap→Prop){Q:Exit→Env→Heap→Prop}{env:Env}{H:Heap}{id:Nat}{l:List Oper}(plan:List (Nat×Bool))(hI:I H)(hm:P.follows .mixedOrders=true)
    (hB:((plan.length==l.length)&&planB l.toArray plan (Array.replicate l.length false))=true)
    (h:APlanI I P n l.toArray Q plan env H):AWP P n (.region id l.toArray true) Q env H:=by
  intro g a w hr hs;simp only[Bool.and_eq_true,beq_iff_eq]at hB;obtain⟨hlen,hB⟩:=hB;refine wp_region_any hm ?_;have hC:=(XAnyI_of_plan plan _ env H hI hB h).any;rw[hlen]at hC;rw[show l.toArray.size=l.length by simp];exact wpAny_of_XAny (g0:=g) (λg' a' w' e H' hle hr' hs' hq=>⟨g',e,H',hle,hr',hs',hq⟩) _ _ g a _ env H (G.le.refl g) hr hs.drew hC
variable{Q:Exit→Env→Heap→Prop}{env:Env}{H:Heap}{i:Nat}{r:List (Nat×Bool)}{op:Op}{ty:TypeId}{pos:String}{af:Array Edge}{x:AV}
theorem APlanI.nil(h:Q .normal env H):APlanI I P n ops Q [] env H:=h
theorem APlanI.p{d:Tmp}(hi:ops[i]?=some ⟨some d,op,ty,pos,af,none⟩)(hd:Nat.blt d n.size=true)(h:APure P ⟨some d,op,ty,pos,af,none⟩ (Env.only (Oper.looksAt ops ⟨some d,op,ty,pos,af,none⟩) env) x)(k:APlanI I P n ops Q r ((d,x)::env) H):APlanI I P n ops Q ((i,true)::r) env H:=
  ⟨_,hi,hd,.inl ⟨rfl,x,.inl ⟨.free rfl,λH' _=>h.step H'⟩,k⟩⟩
theorem APlanI.f{d:Tmp}(hi:ops[i]?=some ⟨some d,op,ty,pos,af,none⟩)(hd:Nat.blt d n.size=true)(h:∀H,I H→AStep P ⟨some d,op,ty,pos,af,none⟩ (Env.only (Oper.looksAt ops ⟨some d,op,ty,pos,af,none⟩) env) H (λy H'=>y=x∧H'=H))(k:APlanI I P n ops Q r ((d,x)::env) H):APlanI I P n ops Q ((i,true)::r) env H:=
  ⟨_,hi,hd,.inl ⟨rfl,x,.inl ⟨.free rfl,h⟩,k⟩⟩
theorem APlanI.s{d:Tmp}{R:AV→Heap→Prop}(hi:ops[i]?=some ⟨some d,op,ty,pos,af,none⟩)(hd:Nat.blt d n.size=true)(h:AStep P ⟨some d,op,ty,pos,af,none⟩ (Env.only (Oper.looksAt ops ⟨some d,op,ty,pos,af,none⟩) env) H R)(k:∀x H',R x H'→I H'∧APlanI I P n ops Q r ((d,x)::env) H'):
    APlanI I P n ops Q ((i,false)::r) env H:=⟨_,hi,hd,.inr ⟨rfl,.free rfl,R,h,k⟩⟩
theorem APlanI.s0{R:AV→Heap→Prop}(hi:ops[i]?=some ⟨none,op,ty,pos,af,none⟩)(h:AStep P ⟨none,op,ty,pos,af,none⟩ (Env.only (Oper.looksAt ops ⟨none,op,ty,pos,af,none⟩) env) H R)(k:∀x H',R x H'→I H'∧APlanI I P n ops Q r env H'):
    APlanI I P n ops Q ((i,false)::r) env H:=⟨_,hi,rfl,.inr ⟨rfl,.free rfl,R,h,k⟩⟩
theorem APlanI.gp{d:Tmp}{e:Tmp}{j:Nat}{want b:Bool}(hi:ops[i]?=some ⟨some d,op,ty,pos,af,some (j,want)⟩)(hd:Nat.blt d n.size=true)(hg:(ops[j]?).bind (·.dst)=some e)(hb:(Env.only (Oper.looksAt ops ⟨some d,op,ty,pos,af,some (j,want)⟩) env).get? e=some (.bool b))(hbw:b=want)
    (h:APure P ⟨some d,op,ty,pos,af,some (j,want)⟩ (Env.only (Oper.looksAt ops ⟨some d,op,ty,pos,af,some (j,want)⟩) env) x)(k:APlanI I P n ops Q r ((d,x)::env) H):APlanI I P n ops Q ((i,true)::r) env H:=
  ⟨_,hi,hd,.inl ⟨rfl,x,.inl ⟨.yes rfl hg hb hbw,λH' _=>h.step H'⟩,k⟩⟩
theorem APlanI.gf{d:Tmp}{e:Tmp}{j:Nat}{want b:Bool}(hi:ops[i]?=some ⟨some d,op,ty,pos,af,some (j,want)⟩)(hd:Nat.blt d n.size=true)(hg:(ops[j]?).bind (·.dst)=some e)(hb:(Env.only (Oper.looksAt ops ⟨some d,op,ty,pos,af,some (j,want)⟩) env).get? e=some (.bool b))(hbw:b=want)
    (h:∀H,I H→AStep P ⟨some d,op,ty,pos,af,some (j,want)⟩ (Env.only (Oper.looksAt ops ⟨some d,op,ty,pos,af,some (j,want)⟩) env) H (λy H'=>y=x∧H'=H))(k:APlanI I P n ops Q r ((d,x)::env) H):APlanI I P n ops Q ((i,true)::r) env H:=
  ⟨_,hi,hd,.inl ⟨rfl,x,.inl ⟨.yes rfl hg hb hbw,h⟩,k⟩⟩
theorem APlanI.gn{d:Tmp}{e:Tmp}{j:Nat}{want b:Bool}(hi:ops[i]?=some ⟨some d,op,ty,pos,af,some (j,want)⟩)(hd:Nat.blt d n.size=true)(hg:(ops[j]?).bind (·.dst)=some e)(hb:(Env.only (Oper.looksAt ops ⟨some d,op,ty,pos,af,some (j,want)⟩) env).get? e=some (.bool b))(hbw:b= !want)
    (k:APlanI I P n ops Q r ((d,.raw undef)::env) H):APlanI I P n ops Q ((i,true)::r) env H:=
  ⟨_,hi,hd,.inl ⟨rfl,_,.inr ⟨.no rfl hg hb hbw,rfl⟩,k⟩⟩
theorem APlanI.gdead{d:Tmp}{e:Tmp}{j:Nat}{want:Bool}(hi:ops[i]?=some ⟨some d,op,ty,pos,af,some (j,want)⟩)(hd:Nat.blt d n.size=true)(hg:(ops[j]?).bind (·.dst)=some e)(hb:(Env.only (Oper.looksAt ops ⟨some d,op,ty,pos,af,some (j,want)⟩) env).get? e=some (.raw undef))
    (k:APlanI I P n ops Q r ((d,.raw undef)::env) H):APlanI I P n ops Q ((i,true)::r) env H:=
  ⟨_,hi,hd,.inl ⟨rfl,_,.inr ⟨.dead j want e rfl hg hb,rfl⟩,k⟩⟩
theorem bool_casesI{b:Bool}{t:Nat}(_h:env.get? t=some (.bool b))(ht:b=true→APlanI I P n ops Q r env H)(hf:b=false→APlanI I P n ops Q r env H):APlanI I P n ops Q r env H:=by
  cases b
  · exact hf rfl
  exact ht rfl
end
end
end Go.Proofs.YtojblnldfdeefaaGreatDoor
-- shim
-- shim
-- shim
-- shim
