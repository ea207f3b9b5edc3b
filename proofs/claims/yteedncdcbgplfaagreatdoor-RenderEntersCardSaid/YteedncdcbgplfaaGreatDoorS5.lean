import Derived.Test.YteedncdcbgplfaaGreatDoorZa
namespace Go.Proofs.YteedncdcbgplfaaGreatDoor
open Go.Proofs.Tryz
open Go Go.RowKit
variable{D S T T':TypeId}{x y:Operand}{k k':IntKind}{a b:Nat}{i n:Int}{u:TypeDesc}
section
section
variable{P:Program}{dst:Option Tmp}{ty:TypeId}{pos:String}{af:Array Edge}{gd:Option (Nat×Bool)}{env:Env}
theorem zO{l:List UInt8}(h:Nat.ble l.length 1000=true):Ev env (.const (.string ⟨l.toArray⟩)) (.str l):=.const _ _ λ_=>.str l (bC (lB h) aC)
theorem biW{m q:Int}(hx:Ev env x (.int k m))(hy:Ev env y (.int k' q))(hq:0≤q):APure P ⟨dst,.binOp .shr T x y T',ty,pos,af,gd⟩ env (.int k (m.fdiv (2^(min q.toNat k.bits)))):=by
 intro g n a ka;have hv:=hx.rel ka;have hu:=hy.rel ka;generalize he:a.eval x=v at hv;generalize hf:a.eval y=u at hu;cases hv;cases hu
 have hn:¬q<0:=by omega
 refine⟨_,.int _ _,λw _=>?_⟩;simp only[execOp,he,hf];simp[eqGuard,binOp,Op.shift,hn]
theorem bytesEq{a b:List UInt8}:((⟨a.toArray⟩:ByteArray).toList==(⟨b.toArray⟩:ByteArray).toList)=decide (a=b):=by
 rw[ByteArray.toList_eq,ByteArray.toList_eq];show(a.toArray.toList==b.toArray.toList)=_;rw[List.toList_toArray,List.toList_toArray];by_cases h:a=b<;>simp[h]
theorem auZ(a b:List UInt8)(w:World):(binOp .eql T (.string ⟨a.toArray⟩) (.string ⟨b.toArray⟩)).run P w= .ok (.bool (decide (a=b))) w∧(binOp .neq T (.string ⟨a.toArray⟩) (.string ⟨b.toArray⟩)).run P w= .ok (.bool (!decide (a=b))) w:=by
 rw[binOp_string_eql,binOp_string_neq,bytesEq];exact⟨rfl,rfl⟩
theorem alK{m q:List UInt8}(hx:Ev env x (.str m))(hy:Ev env y (.str q)):APure P ⟨dst,.binOp .eql T x y T',ty,pos,af,gd⟩ env (.bool (decide (m=q))):=by
 intro g n a ka;obtain⟨v,he,hv⟩:=ev1 hx ka;obtain⟨u,hf,hu⟩:=ev1 hy ka;cases hv;cases hu
 exact⟨_,.bool _,λw _=>aiI he hf rfl (auZ m q w).1⟩
theorem bfH{m q:List UInt8}(hx:Ev env x (.str m))(hy:Ev env y (.str q)):APure P ⟨dst,.binOp .neq T x y T',ty,pos,af,gd⟩ env (.bool (!decide (m=q))):=by
 intro g n a ka;obtain⟨v,he,hv⟩:=ev1 hx ka;obtain⟨u,hf,hu⟩:=ev1 hy ka;cases hv;cases hu
 exact⟨_,.bool _,λw _=>aiI he hf rfl (auZ m q w).2⟩
end
end
section
open Go Go.RowKit
section
variable{P:Program}{dst:Option Tmp}{ty:TypeId}{pos:String}{af:Array Edge}{gd:Option (Nat×Bool)}{env:Env}
theorem zQ:maxLen=9223372036854775807:=rfl
theorem yB(n:Nat):Ev env (.const (.int k (n:Int))) (.int k (n:Int)):=.const _ _ λ_=>.int k _
/-! ### bits -/
theorem abV{w:Nat}(h:a<2^w):(BitVec.ofInt w (a:Int)).toNat=a:=by
 rw[BitVec.toNat_ofInt];have:((a:Int)%((2^w:Nat):Int))=a:=Int.emod_eq_of_lt aA (by exact_mod_cast h);rw[this];rfl
theorem aiJ(ha:a<2^k.bits)(hb:b<2^k.bits):
  bits .and k a b=k.wrap ((a&&&b:Nat):Int)∧bits .or k a b=k.wrap ((a|||b:Nat):Int)∧bits .xor k a b=k.wrap ((a^^^b:Nat):Int)∧bits .andNot k a b=k.wrap ((a-(a&&&b):Nat):Int):=by
 refine⟨?_,?_,?_,?_⟩
 ·show k.wrap ((BitVec.ofInt k.bits (a:Int)&&&BitVec.ofInt k.bits (b:Int)).toNat:Int)=_;rw[BitVec.toNat_and,abV ha,abV hb]
 ·show k.wrap ((BitVec.ofInt k.bits (a:Int)|||BitVec.ofInt k.bits (b:Int)).toNat:Int)=_;rw[BitVec.toNat_or,abV ha,abV hb]
 ·show k.wrap ((BitVec.ofInt k.bits (a:Int)^^^BitVec.ofInt k.bits (b:Int)).toNat:Int)=_;rw[BitVec.toNat_xor,abV ha,abV hb]
 show k.wrap ((BitVec.ofInt k.bits (a:Int)&&& ~~~BitVec.ofInt k.bits (b:Int)).toNat:Int)=_;have e1:=abV ha;have e2:=abV hb;generalize BitVec.ofInt k.bits (a:Int)=x at e1 ⊢;generalize BitVec.ofInt k.bits (b:Int)=y at e2 ⊢;have hd:(x&&& ~~~y)&&&(x&&&y)=0#_:=by
  ext i
  simp
  intros;simp_all
 have hs:(x&&& ~~~y)+(x&&&y)=x:=by
  rw[BitVec.add_eq_or_of_and_eq_zero _ _ hd];ext i;simp;cases x[i]<;>cases y[i]<;>rfl
 have h1:=congrArg BitVec.toNat hs;rw[BitVec.toNat_add,BitVec.toNat_and x y,e1,e2]at h1;have h2:(x&&& ~~~y).toNat≤a:=by rw[BitVec.toNat_and,e1];exact Nat.and_le_left
 have h3:a&&&b≤a:=Nat.and_le_left;have key:(x&&& ~~~y).toNat=a-(a&&&b):=by
  generalize(x&&& ~~~y).toNat=z at *;generalize a&&&b=u at *;rcases bX (z+u) (2^k.bits)with h|h
  ·rw[bH h]at h1;omega
  rw[Nat.mod_eq_sub_mod h,bH aA]at h1;omega
 rw[key]
theorem ajP{op:BinOp}{x y:Int}{w:World}(h:op= .and∨op= .or∨op= .xor∨op= .andNot):(binOp op T (.int k x) (.int k y)).run P w= .ok (.int k (bits op k x y)) w:=by
 rcases h with rfl|rfl|rfl|rfl<;>simp[binOp,intBits_and,intBits_or,intBits_xor,intBits_andNot]
theorem uwrap(hk:k.signed=false)(n:Int):k.wrap n=n%2^k.bits:=by
 simp[IntKind.wrap,hk]
theorem brI{w q:Nat}(h:a<2^w):(a:Int).fdiv (2^(min (q:Int).toNat w))=((a/2^q:Nat):Int):=by
 have e:((2:Int)^(min (q:Int).toNat w))=((2^(min q w):Nat):Int):=by simp
 rw[e,Int.fdiv_eq_ediv_of_nonneg _ (cO _),←Int.natCast_ediv];congr 1;by_cases hq:q≤w
 ·rw[cZ hq]
 rw[Nat.min_eq_right aA,cD h,cD (bQ h (bB aC aA))]
theorem cgD(hk:k.signed=false){q:Nat}:k.wrap ((a:Int)*2^(min (q:Int).toNat k.bits))=((a*2^q%2^k.bits:Nat):Int):=by
 rw[uwrap hk];have e:((a:Int)*2^(min (q:Int).toNat k.bits))=((a*2^(min q k.bits):Nat):Int):=by simp
 have e2:((2:Int)^k.bits)=((2^k.bits:Nat):Int):=by simp
 rw[e,e2,←Int.natCast_emod];congr 1;by_cases hq:q≤k.bits
 ·rw[cZ hq]
 rw[Nat.min_eq_right aA];obtain⟨d,rfl⟩:∃d,q=k.bits+d:=⟨q-k.bits,by omega⟩;rw[bI,Nat.mul_mod_left,←bJ,Nat.mul_right_comm,Nat.mul_mod_left]
theorem axW{m q:Int}(hx:Ev env x (.int k m))(hy:Ev env y (.int k' q))(hq:0≤q):APure P ⟨dst,.binOp .shl T x y T',ty,pos,af,gd⟩ env (.int k (k.wrap (m*2^(min q.toNat k.bits)))):=by
 intro g n a ka;obtain⟨v,he,hv⟩:=ev1 hx ka;obtain⟨u,hf,hu⟩:=ev1 hy ka;cases hv;cases hu
 have hn:¬q<0:=by omega
 refine⟨_,.int _ _,λw _=>?_⟩;simp only[execOp,he,hf];simp[eqGuard,binOp,Op.shift,hn]
theorem wrap8(h0:0≤n)(h1:n<256):IntKind.u8.wrap n=n:=ahW (by simp[IntKind.min,IntKind.signed];try omega) (by simp[IntKind.max,IntKind.bits,IntKind.signed];omega)
theorem bnA(hx:Ev env x (.int .u8 (a:Int)))(hy:Ev env y (.int .u8 (b:Int))):APure P ⟨dst,.binOp .add T x y T',ty,pos,af,gd⟩ env (.int .u8 (((a+b)%256:Nat):Int)):=by
 have h:=arQ (P:=P) (dst:=dst) (T:=T) (T':=T') (ty:=ty) (pos:=pos) (af:=af) (gd:=gd) hx hy;rw[uwrap (k:=.u8) rfl]at h;have e:(((a:Int)+b)%2^IntKind.u8.bits)=(((a+b)%256:Nat):Int):=by simp[IntKind.bits]
 rwa[e]at h
theorem avO(hx:Ev env x (.int .u8 (a:Int)))(hy:Ev env y (.int .u8 (b:Int)))(hl:a+b<256):APure P ⟨dst,.binOp .add T x y T',ty,pos,af,gd⟩ env (.int .u8 ((a+b:Nat):Int)):=by
 have h:=bnA (P:=P) (dst:=dst) (T:=T) (T':=T') (ty:=ty) (pos:=pos) (af:=af) (gd:=gd) hx hy
 rwa[bH hl]at h
theorem bmT(hx:Ev env x (.int .u8 (a:Int)))(hy:Ev env y (.int .u8 (b:Int)))(hl:b≤a)(ha:a<256):APure P ⟨dst,.binOp .sub T x y T',ty,pos,af,gd⟩ env (.int .u8 ((a-b:Nat):Int)):=by
 have h:=ahG (P:=P) (dst:=dst) (T:=T) (T':=T') (ty:=ty) (pos:=pos) (af:=af) (gd:=gd) hx hy
 rwa[show((a:Int)-b)=((a-b:Nat):Int) by omega,wrap8 aA aA]at h
theorem wrap32(h0:0≤n)(h1:n<4294967296):IntKind.u32.wrap n=n:=ahW (by simp[IntKind.min,IntKind.signed];try omega) (by simp[IntKind.max,IntKind.bits,IntKind.signed];omega)
theorem wrapN32(h:a<4294967296):IntKind.u32.wrap (a:Int)=a:=wrap32 (cO _) aA
theorem lt32(h:a<4294967296):a<2^IntKind.u32.bits:=by simp[IntKind.bits];omega
theorem ajU(hx:Ev env x (.int .u32 (a:Int)))(hy:Ev env y (.int .u32 (b:Int)))(ha:a<4294967296)(hb:b<4294967296):APure P ⟨dst,.binOp .and T x y T',ty,pos,af,gd⟩ env (.int .u32 ((a&&&b:Nat):Int)):=
 aaE hx hy λ_=>⟨_,.int _ _,λw=>by
   have h:(a&&&b)<4294967296:=bA Nat.and_le_left ha;have e:=(aiJ (k:=.u32) (lt32 ha) (lt32 hb)).1;rw[wrapN32 h]at e;rw[ajP aF,e]⟩
theorem bbI(hx:Ev env x (.int .u32 (a:Int)))(hy:Ev env y (.int .u32 (b:Int)))(ha:a<4294967296)(hb:b<4294967296):APure P ⟨dst,.binOp .or T x y T',ty,pos,af,gd⟩ env (.int .u32 ((a|||b:Nat):Int)):=
 aaE hx hy λ_=>⟨_,.int _ _,λw=>by
   have h:(a|||b)<4294967296:=Nat.or_lt_two_pow (n:=32) (by simpa using ha) (by simpa using hb);have e:=(aiJ (k:=.u32) (lt32 ha) (lt32 hb)).2.1;rw[wrapN32 h]at e;rw[ajP aF,e]⟩
theorem bmS(hx:Ev env x (.int .u32 (a:Int)))(hy:Ev env y (.int .u32 (b:Int)))(ha:a<4294967296)(hb:b<4294967296):APure P ⟨dst,.binOp .xor T x y T',ty,pos,af,gd⟩ env (.int .u32 ((a^^^b:Nat):Int)):=
 aaE hx hy λ_=>⟨_,.int _ _,λw=>by
   have h:(a^^^b)<4294967296:=Nat.xor_lt_two_pow (n:=32) (by simpa using ha) (by simpa using hb);have e:=(aiJ (k:=.u32) (lt32 ha) (lt32 hb)).2.2.1;rw[wrapN32 h]at e;rw[ajP aF,e]⟩
theorem anU{q:Nat}(hx:Ev env x (.int .u32 (a:Int)))(hy:Ev env y (.int k' (q:Int)))(ha:a<4294967296):APure P ⟨dst,.binOp .shr T x y T',ty,pos,af,gd⟩ env (.int .u32 ((a/2^q:Nat):Int)):=by
 have h:=biW (P:=P) (dst:=dst) (T:=T) (T':=T') (ty:=ty) (pos:=pos) (af:=af) (gd:=gd) hx hy (cO q)
 rwa[brI (lt32 ha)]at h
theorem arO{q:Nat}(hx:Ev env x (.int .u32 (a:Int)))(hy:Ev env y (.int k' (q:Int)))(hq:q≤32)(h1:a*2^q<4294967296):APure P ⟨dst,.binOp .shl T x y T',ty,pos,af,gd⟩ env (.int .u32 ((a*2^q:Nat):Int)):=by
 have h:=axW (P:=P) (dst:=dst) (T:=T) (T':=T') (ty:=ty) (pos:=pos) (af:=af) (gd:=gd) hx hy (cO q);rw[show min (q:Int).toNat IntKind.u32.bits=q by simp[IntKind.bits];omega]at h;have e:((a:Int)*2^q)=((a*2^q:Nat):Int):=by simp
 rwa[e,wrapN32 h1]at h
theorem bfF(hx:Ev env x (.int .u32 (a:Int)))(hy:Ev env y (.int .u32 (b:Int)))(hl:b≤a)(ha:a<4294967296):APure P ⟨dst,.binOp .sub T x y T',ty,pos,af,gd⟩ env (.int .u32 ((a-b:Nat):Int)):=by
 have h:=ahG (P:=P) (dst:=dst) (T:=T) (T':=T') (ty:=ty) (pos:=pos) (af:=af) (gd:=gd) hx hy
 rwa[show((a:Int)-b)=((a-b:Nat):Int) by omega,wrap32 aA aA]at h
theorem arN(hx:Ev env x (.int .u32 (a:Int)))(hy:Ev env y (.int .u32 (b:Int)))(hb:b≤4294967296):APure P ⟨dst,.binOp .sub T x y T',ty,pos,af,gd⟩ env (.int .u32 (((a+(4294967296-b))%4294967296:Nat):Int)):=by
 have h:=ahG (P:=P) (dst:=dst) (T:=T) (T':=T') (ty:=ty) (pos:=pos) (af:=af) (gd:=gd) hx hy;rw[uwrap (k:=.u32) rfl]at h;have e:(((a:Int)-b)%2^IntKind.u32.bits)=(((a+(4294967296-b))%4294967296:Nat):Int):=by simp only[IntKind.bits];omega
 rwa[e]at h
theorem bmV(hx:Ev env x (.int .u32 (a:Int)))(hy:Ev env y (.int .u32 (b:Int)))(ha:a<4294967296)(hb:0<b):APure P ⟨dst,.binOp .quo T x y T',ty,pos,af,gd⟩ env (.int .u32 ((a/b:Nat):Int)):=by
 have h:=amK (P:=P) (dst:=dst) (T:=T) (T':=T') (ty:=ty) (pos:=pos) (af:=af) (gd:=gd) hx hy aA;have e:(a:Int).tdiv b=((a/b:Nat):Int):=by rw[fY aA];simp
 rwa[e,wrapN32 (bA (dP a b) ha)]at h
theorem wrap64(h0:0≤n)(h1:n<18446744073709551616):IntKind.u64.wrap n=n:=ahW (by simp[IntKind.min,IntKind.signed];try omega) (by simp[IntKind.max,IntKind.bits,IntKind.signed];omega)
theorem wrapN64(h:a<18446744073709551616):IntKind.u64.wrap (a:Int)=a:=wrap64 (cO _) aA
theorem lt64(h:a<18446744073709551616):a<2^IntKind.u64.bits:=by simp[IntKind.bits];omega
theorem adQ(hx:Ev env x (.int .u64 (a:Int)))(hy:Ev env y (.int .u64 (b:Int)))(ha:a<18446744073709551616)(hb:b<18446744073709551616):APure P ⟨dst,.binOp .and T x y T',ty,pos,af,gd⟩ env (.int .u64 ((a&&&b:Nat):Int)):=
 aaE hx hy λ_=>⟨_,.int _ _,λw=>by
   have h:(a&&&b)<18446744073709551616:=bA Nat.and_le_left ha;have e:=(aiJ (k:=.u64) (lt64 ha) (lt64 hb)).1;rw[wrapN64 h]at e;rw[ajP aF,e]⟩
theorem abK(hx:Ev env x (.int .u64 (a:Int)))(hy:Ev env y (.int .u64 (b:Int)))(ha:a<18446744073709551616)(hb:b<18446744073709551616):APure P ⟨dst,.binOp .or T x y T',ty,pos,af,gd⟩ env (.int .u64 ((a|||b:Nat):Int)):=
 aaE hx hy λ_=>⟨_,.int _ _,λw=>by
   have h:(a|||b)<18446744073709551616:=Nat.or_lt_two_pow (n:=64) (by simpa using ha) (by simpa using hb);have e:=(aiJ (k:=.u64) (lt64 ha) (lt64 hb)).2.1;rw[wrapN64 h]at e;rw[ajP aF,e]⟩
theorem axZ(hx:Ev env x (.int .u64 (a:Int)))(hy:Ev env y (.int .u64 (b:Int)))(ha:a<18446744073709551616)(hb:b<18446744073709551616):APure P ⟨dst,.binOp .andNot T x y T',ty,pos,af,gd⟩ env (.int .u64 ((a-(a&&&b):Nat):Int)):=
 aaE hx hy λ_=>⟨_,.int _ _,λw=>by
   have h:(a-(a&&&b))<18446744073709551616:=by omega
   have e:=(aiJ (k:=.u64) (lt64 ha) (lt64 hb)).2.2.2;rw[wrapN64 h]at e;rw[ajP aF,e]⟩
theorem aaM{q:Nat}(hx:Ev env x (.int .u64 (a:Int)))(hy:Ev env y (.int k' (q:Int)))(ha:a<18446744073709551616):APure P ⟨dst,.binOp .shr T x y T',ty,pos,af,gd⟩ env (.int .u64 ((a/2^q:Nat):Int)):=by
 have h:=biW (P:=P) (dst:=dst) (T:=T) (T':=T') (ty:=ty) (pos:=pos) (af:=af) (gd:=gd) hx hy (cO q)
 rwa[brI (lt64 ha)]at h
theorem bmU{q:Nat}(hx:Ev env x (.int .u64 (a:Int)))(hy:Ev env y (.int k' (q:Int))):APure P ⟨dst,.binOp .shl T x y T',ty,pos,af,gd⟩ env (.int .u64 ((a*2^q%18446744073709551616:Nat):Int)):=by
 have h:=axW (P:=P) (dst:=dst) (T:=T) (T':=T') (ty:=ty) (pos:=pos) (af:=af) (gd:=gd) hx hy (cO q)
 rwa[cgD (k:=.u64) rfl]at h
theorem qZ{q:Nat}(hx:Ev env x (.int .u64 (a:Int)))(hy:Ev env y (.int k' (q:Int)))(hq:q≤64)(h1:a*2^q<18446744073709551616):APure P ⟨dst,.binOp .shl T x y T',ty,pos,af,gd⟩ env (.int .u64 ((a*2^q:Nat):Int)):=by
 have h:=axW (P:=P) (dst:=dst) (T:=T) (T':=T') (ty:=ty) (pos:=pos) (af:=af) (gd:=gd) hx hy (cO q);rw[show min (q:Int).toNat IntKind.u64.bits=q by simp[IntKind.bits];omega]at h;have e:((a:Int)*2^q)=((a*2^q:Nat):Int):=by simp
 rwa[e,wrapN64 h1]at h
theorem bfN(hx:Ev env x (.int .u64 (a:Int)))(hy:Ev env y (.int .u64 (b:Int))):APure P ⟨dst,.binOp .add T x y T',ty,pos,af,gd⟩ env (.int .u64 (((a+b)%18446744073709551616:Nat):Int)):=by
 have h:=arQ (P:=P) (dst:=dst) (T:=T) (T':=T') (ty:=ty) (pos:=pos) (af:=af) (gd:=gd) hx hy;rw[uwrap (k:=.u64) rfl]at h;have e:(((a:Int)+b)%2^IntKind.u64.bits)=(((a+b)%18446744073709551616:Nat):Int):=by simp[IntKind.bits]
 rwa[e]at h
theorem qF(hx:Ev env x (.int .u64 (a:Int)))(hy:Ev env y (.int .u64 (b:Int)))(hl:a+b<18446744073709551616):APure P ⟨dst,.binOp .add T x y T',ty,pos,af,gd⟩ env (.int .u64 ((a+b:Nat):Int)):=by
 have h:=bfN (P:=P) (dst:=dst) (T:=T) (T':=T') (ty:=ty) (pos:=pos) (af:=af) (gd:=gd) hx hy
 rwa[bH hl]at h
theorem bfI(hx:Ev env x (.int .u64 (a:Int)))(hy:Ev env y (.int .u64 (b:Int))):APure P ⟨dst,.binOp .mul T x y T',ty,pos,af,gd⟩ env (.int .u64 (((a*b)%18446744073709551616:Nat):Int)):=by
 have h:=bbK (P:=P) (dst:=dst) (T:=T) (T':=T') (ty:=ty) (pos:=pos) (af:=af) (gd:=gd) hx hy;rw[uwrap (k:=.u64) rfl]at h;have e:(((a:Int)*b)%2^IntKind.u64.bits)=(((a*b)%18446744073709551616:Nat):Int):=by simp[IntKind.bits]
 rwa[e]at h
theorem adP(hx:Ev env x (.int .u64 (a:Int)))(hy:Ev env y (.int .u64 (b:Int)))(hl:a*b<18446744073709551616):APure P ⟨dst,.binOp .mul T x y T',ty,pos,af,gd⟩ env (.int .u64 ((a*b:Nat):Int)):=by
 have h:=bfI (P:=P) (dst:=dst) (T:=T) (T':=T') (ty:=ty) (pos:=pos) (af:=af) (gd:=gd) hx hy
 rwa[bH hl]at h
theorem afT(hx:Ev env x (.int .u64 (a:Int)))(hy:Ev env y (.int .u64 (b:Int)))(hl:b≤a)(ha:a<18446744073709551616):APure P ⟨dst,.binOp .sub T x y T',ty,pos,af,gd⟩ env (.int .u64 ((a-b:Nat):Int)):=by
 have h:=ahG (P:=P) (dst:=dst) (T:=T) (T':=T') (ty:=ty) (pos:=pos) (af:=af) (gd:=gd) hx hy
 rwa[show((a:Int)-b)=((a-b:Nat):Int) by omega,wrap64 aA aA]at h
theorem arM(hx:Ev env x (.int .u64 (a:Int)))(hy:Ev env y (.int .u64 (b:Int)))(hb:b≤18446744073709551616):APure P ⟨dst,.binOp .sub T x y T',ty,pos,af,gd⟩ env (.int .u64 (((a+(18446744073709551616-b))%18446744073709551616:Nat):Int)):=by
 have h:=ahG (P:=P) (dst:=dst) (T:=T) (T':=T') (ty:=ty) (pos:=pos) (af:=af) (gd:=gd) hx hy;rw[uwrap (k:=.u64) rfl]at h;have e:(((a:Int)-b)%2^IntKind.u64.bits)=(((a+(18446744073709551616-b))%18446744073709551616:Nat):Int):=by simp only[IntKind.bits];omega
 rwa[e]at h
theorem anW(hx:Ev env x (.int .u64 (a:Int)))(hy:Ev env y (.int .u64 (b:Int)))(ha:a<18446744073709551616)(hb:0<b):APure P ⟨dst,.binOp .quo T x y T',ty,pos,af,gd⟩ env (.int .u64 ((a/b:Nat):Int)):=by
 have h:=amK (P:=P) (dst:=dst) (T:=T) (T':=T') (ty:=ty) (pos:=pos) (af:=af) (gd:=gd) hx hy aA;have e:(a:Int).tdiv b=((a/b:Nat):Int):=by rw[fY aA];simp
 rwa[e,wrapN64 (bA (dP a b) ha)]at h
theorem anV(hx:Ev env x (.int .u64 (a:Int)))(hy:Ev env y (.int .u64 (b:Int)))(hb:0<b):APure P ⟨dst,.binOp .rem T x y T',ty,pos,af,gd⟩ env (.int .u64 ((a%b:Nat):Int)):=by
 have h:=amJ (P:=P) (dst:=dst) (T:=T) (T':=T') (ty:=ty) (pos:=pos) (af:=af) (gd:=gd) hx hy aA;have e:(a:Int).tmod b=((a%b:Nat):Int):=by rw[Int.tmod_eq_emod_of_nonneg aA];simp
 rwa[e]at h
theorem wrapI64(h0:0≤n)(h1:n<9223372036854775808):IntKind.i64.wrap n=n:=ahW (by simp[IntKind.min,IntKind.signed,IntKind.bits];try omega) (by simp[IntKind.max,IntKind.bits,IntKind.signed];omega)
theorem wrapNI64(h:a<9223372036854775808):IntKind.i64.wrap (a:Int)=a:=wrapI64 (cO _) aA
theorem bfG(hx:Ev env x (.int .i64 (a:Int)))(hy:Ev env y (.int .i64 (b:Int)))(ha:a<9223372036854775808)(hb:0<b):APure P ⟨dst,.binOp .quo T x y T',ty,pos,af,gd⟩ env (.int .i64 ((a/b:Nat):Int)):=by
 have h:=amK (P:=P) (dst:=dst) (T:=T) (T':=T') (ty:=ty) (pos:=pos) (af:=af) (gd:=gd) hx hy aA;have e:(a:Int).tdiv b=((a/b:Nat):Int):=by rw[fY aA];simp
 rwa[e,wrapNI64 (bA (dP a b) ha)]at h
theorem alI(hx:Ev env x (.int .i64 (a:Int)))(hy:Ev env y (.int .i64 (b:Int)))(hb:0<b):APure P ⟨dst,.binOp .rem T x y T',ty,pos,af,gd⟩ env (.int .i64 ((a%b:Nat):Int)):=by
 have h:=amJ (P:=P) (dst:=dst) (T:=T) (T':=T') (ty:=ty) (pos:=pos) (af:=af) (gd:=gd) hx hy aA;have e:(a:Int).tmod b=((a%b:Nat):Int):=by rw[Int.tmod_eq_emod_of_nonneg aA];simp
 rwa[e]at h
/-! ### conversions of numbers -/
theorem avM(hs:P.underlying S=some u)(hd:P.underlying D=some (.int k'))(hx:Ev env x (.int k n)):APure P ⟨dst,.convert S D x,ty,pos,af,gd⟩ env (.int k' (k'.wrap n)):=by
 intro g m a ka;obtain⟨v,he,hv⟩:=ev1 hx ka;cases hv
 refine⟨_,.int _ _,λw _=>?_⟩;simp[execOp,he,convert,underlying,hs,hd,Conv.intToInt]
theorem qD(hs:P.underlying S=some u)(hd:P.underlying D=some (.int k'))(hx:Ev env x (.int k n))(h:k'.wrap n=n):APure P ⟨dst,.convert S D x,ty,pos,af,gd⟩ env (.int k' n):=by
 have:=avM (P:=P) (dst:=dst) (ty:=ty) (pos:=pos) (af:=af) (gd:=gd) hs hd hx
 rwa[h]at this
theorem acX(hs:P.underlying S=some u)(hd:P.underlying D=some (.int k'))(hk:k'.signed=false)(hx:Ev env x (.int k (a:Int))):APure P ⟨dst,.convert S D x,ty,pos,af,gd⟩ env (.int k' ((a%2^k'.bits:Nat):Int)):=by
 have:=avM (P:=P) (dst:=dst) (ty:=ty) (pos:=pos) (af:=af) (gd:=gd) hs hd hx;rw[uwrap hk]at this;simpa using this
/-! ### texts -/
theorem bmk(l:List UInt8):(⟨l.toArray⟩:ByteArray).size=l.length:=rfl
theorem qQ{s:List UInt8}(hu:P.underlying T=some .string)(hx:Ev env x (.str s))(hy:Ev env y (.int k i))(h0:0≤i)(h1:i<s.length):
  APure P ⟨dst,.index T x y,ty,pos,af,gd⟩ env (.int .u8 (((s.getD i.toNat 0).toNat:Nat):Int)):=by
 intro g n a ka;obtain⟨v,he,hv⟩:=ev1 hx ka;obtain⟨u,hf,hu'⟩:=ev1 hy ka;cases hv;cases hu'
 refine⟨_,.int _ _,λw _=>?_⟩;have hr:=run_index_string (P:=P) w T ⟨s.toArray⟩ k i hu;rw[dif_pos ⟨h0,by rw[bmk];exact h1⟩]at hr;have hl:i.toNat<s.length:=by omega
 have e:(⟨s.toArray⟩:ByteArray)[i.toNat]'(by rw[bmk];exact hl)=s.getD i.toNat 0:=by
  rw[aP,aX hl];rfl
 rw[e]at hr;simp[execOp,he,hf,hr]
theorem aaJ{lo hi:Operand}{s:List UInt8}{j:Int}(hu:P.underlying T=some .string)(hx:Ev env x (.str s))(hl:Ev env lo (.int k i))(hh:Ev env hi (.int k' j))(h0:0≤i)(h1:i≤j)(h2:j≤s.length):
  APure P ⟨dst,.slice T x (some lo) (some hi) none,ty,pos,af,gd⟩ env (.str ((s.take j.toNat).drop i.toNat)):=by
 intro g n a ka;obtain⟨v,he,hv⟩:=ev1 hx ka;obtain⟨u,hf,hu'⟩:=ev1 hl ka;obtain⟨u2,hf2,hu2⟩:=ev1 hh ka;cases hv with
 |str s hs=>
 cases hu';cases hu2
 refine⟨.string ⟨((s.take j.toNat).drop i.toNat).toArray⟩,.str _ aG,λw _=>?_⟩;have hr:=run_slice_string (P:=P) w T ⟨s.toArray⟩ k k' i j hu h0 h1 (by rw[bmk];exact h2);rw[ByteArray.extract_mk,←List.drop_take]at hr;simp[execOp,he,hf,hf2,run_sliceAt_string _ _ _ _ _ _ hu,hr]
theorem agO{lo:Operand}{s:List UInt8}(hu:P.underlying T=some .string)(hx:Ev env x (.str s))(hl:Ev env lo (.int k i))(h0:0≤i)(h1:i≤s.length):
  APure P ⟨dst,.slice T x (some lo) none none,ty,pos,af,gd⟩ env (.str (s.drop i.toNat)):=by
 intro g n a ka;obtain⟨v,he,hv⟩:=ev1 hx ka;obtain⟨u,hf,hu'⟩:=ev1 hl ka;cases hv with
 |str s hs=>
 cases hu'
 refine⟨.string ⟨(s.drop i.toNat).toArray⟩,.str _ aG,λw _=>?_⟩;have hr:=run_slice_string_from_if (P:=P) w T ⟨s.toArray⟩ k i hu;rw[aN ⟨h0,by rw[bmk];exact h1⟩,ByteArray.extract_mk,aY (by rw[bmk];simp)]at hr;simp[execOp,he,hf,run_sliceAt_string _ _ _ _ _ _ hu,hr]
theorem agP{hi:Operand}{s:List UInt8}{j:Int}(hu:P.underlying T=some .string)(hx:Ev env x (.str s))(hh:Ev env hi (.int k j))(h0:0≤j)(h1:j≤s.length):
  APure P ⟨dst,.slice T x none (some hi) none,ty,pos,af,gd⟩ env (.str (s.take j.toNat)):=by
 intro g n a ka;obtain⟨v,he,hv⟩:=ev1 hx ka;obtain⟨u,hf,hu'⟩:=ev1 hh ka;cases hv with
 |str s hs=>
 cases hu'
 refine⟨.string ⟨(s.take j.toNat).toArray⟩,.str _ aG,λw _=>?_⟩;have hr:=run_slice_string_to_if (P:=P) w T ⟨s.toArray⟩ k j hu;rw[aN ⟨h0,by rw[bmk];exact h1⟩,ByteArray.extract_mk]at hr;simp[execOp,he,hf,run_sliceAt_string _ _ _ _ _ _ hu,hr]
theorem zY{s t:List UInt8}(hx:Ev env x (.str s))(hy:Ev env y (.str t))(h:s.length+t.length≤maxLen):APure P ⟨dst,.binOp .add T x y T',ty,pos,af,gd⟩ env (.str (s++t)):=by
 intro g n a ka;obtain⟨v,he,hv⟩:=ev1 hx ka;obtain⟨u,hf,hu'⟩:=ev1 hy ka;cases hv;cases hu'
 refine⟨.string ⟨(s++t).toArray⟩,.str _ (by simpa using h),λw _=>?_⟩;have hr:=run_string_add_sum (P:=P) w ⟨s.toArray⟩ ⟨t.toArray⟩ (by rw[bmk,bmk];simpa[maxLen]using h);rw[ByteArray.mk_append_mk]at hr;have hb:(binOp .add T (.string ⟨s.toArray⟩) (.string ⟨t.toArray⟩)).run P w= .ok (.string ⟨(s++t).toArray⟩) w:=hr;exact aiI he hf rfl hb
end
end
end Go.Proofs.YteedncdcbgplfaaGreatDoor
