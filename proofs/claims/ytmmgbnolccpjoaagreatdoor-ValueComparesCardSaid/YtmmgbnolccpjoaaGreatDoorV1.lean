import Derived.Test.YtmmgbnolccpjoaaGreatDoorP2
import Derived.Shelf.Spec.BitsCarry
set_option maxHeartbeats 1000000
namespace Go.Proofs.YtmmgbnolccpjoaaGreatDoor
open Go.Proofs.Tryz
open Go Go.RowKit
variable{B Y a b k r u u1 y y0 y1:Nat}
theorem ciC{v n:Nat}(h1:64≤n):v*2^n%M2/M1=v%M1*2^(n-64)%M1∧v*2^n%M2%M1=0:=by
 have e:v*2^n=M1*(v*2^(n-64)):=by
  rw[agX,Nat.mul_left_comm,←bI,show 64+(n-64)=n by omega]
 have h0:0<M1:=by decide
 rw[e,blH,Nat.mul_mod_mul_left,Nat.mul_div_cancel_left _ h0,Nat.mul_mod_right];refine⟨?_,rfl⟩;have q1:=Nat.mul_mod v (2^(n-64)) M1;have q2:=Nat.mul_mod (v%M1) (2^(n-64)) M1;rw[Nat.mod_mod]at q2;exact q1.trans q2.symm
theorem clR(hb:b<M2):(a+M2-b)%M2%M1=(a%M1+M1-b%M1-0)%M1:=by
 unfold M1 M2 at *;omega
theorem clS(ha:a<M2)(hb:b<M2):(a+M2-b)%M2/M1=(a/M1+M1-b/M1-(if a%M1<b%M1+0 then 1 else 0))%M1:=by
 unfold M1 M2 at *;split<;>omega
theorem buM(ha:a<M2)(hb:b<M2):((if a/M1<b/M1+(if a%M1<b%M1+0 then 1 else 0)then 1 else 0:Nat)=1↔a<b):=by
 unfold M1 M2 at *;by_cases p:a%18446744073709551616<b%18446744073709551616+0
 ·rw[aN p];by_cases q:a/18446744073709551616<b/18446744073709551616+1
  ·rw[aN q];omega
  rw[aL q];omega
 rw[aL p];by_cases q:a/18446744073709551616<b/18446744073709551616+0
 ·rw[aN q];omega
 rw[aL q];omega
theorem bzK{a b:Nat}:(a/M1<b/M1∨(a/M1=b/M1∧a%M1<b%M1)↔a<b)∧(a/M1=b/M1∧a%M1=b%M1↔a=b):=by
 unfold M1;omega
section
open Go Go.RowKit Go.Shelf
theorem ext292:IsExt prog 292 sub64Entry:=⟨_,func292,by kernel_rfl,by kernel_rfl,by kernel_rfl,by kernel_rfl⟩
theorem bfX{x y c:Nat}(hc:c≤1):∀g vs w,RelVs g [.int .u64 (x:Int),.int .u64 (y:Int),.int .u64 (c:Int)] vs→∃v,(sub64Entry vs.toArray).run prog w= .ok v w∧RelV g (.tuple [.int .u64 (((x+18446744073709551616-y-c)%18446744073709551616:Nat):Int),.int .u64 ((if x<y+c then 1 else 0:Nat):Int)]) v:=by
 intro g vs w hr;obtain⟨v,u,z,rfl,h1,h2,h3⟩:=relvs3 hr;cases h1;cases h2;cases h3
 have hrun:=run_sub64 (P:=prog) x y c hc w;refine⟨_,hrun,.tuple _ _ rfl (λi c v hc hv=>?_)⟩
 match i with
 |0=>cases hc;cases hv;exact .int _ _
 |1=>cases hc;cases hv;exact .int _ _
 |i+2=>simp at hc
theorem bsK{x:Nat}:∀g vs w,RelVs g [.int .u64 (x:Int),.int .u64 (y:Int),.int .u64 ((0:Nat):Int)] vs→∃v,(sub64Entry vs.toArray).run prog w= .ok v w∧RelV g (.tuple [.int .u64 (((x+18446744073709551616-y-0)%18446744073709551616:Nat):Int),.int .u64 ((if x<y+0 then 1 else 0:Nat):Int)]) v:=@bfX x y 0 aC
end
section
open Go Go.RowKit
set_option maxRecDepth 100000
theorem eqIn2(d:Nat)(a b a2 b2:Int)(w:World):(Op.equalIn (d+2) 149 (.agg #[.int .u64 a,.int .u64 b]) (.agg #[.int .u64 a2,.int .u64 b2])).run prog w= .ok (decide (a=a2∧b=b2)) w:=by
 have u3:=U22;have a3:=G22;have z3:=Z22;have hS:prog.underlying 149=some (.struct (prog.fieldsOf 149)):=by kernel_rfl
 have hp:prog.stoodInHeld 149=false:=by kernel_rfl
 rw[run_equalIn_agg w (d+1) 149 _ _ hS hp];simp only[Program.fieldsOf,U149]
 go_simp
 by_cases h1:a=a2<;>by_cases h2:b=b2<;>simp[h1,h2]
theorem eq2(a b a2 b2:Int):avV prog 149 [.int .u64 a,.int .u64 b] [.int .u64 a2,.int .u64 b2] (decide (a=a2∧b=b2)):=λg xs ys w h k=>by
 rw[h.plain [.int .u64 a,.int .u64 b] rfl,k.plain [.int .u64 a2,.int .u64 b2] rfl];exact eqIn2 9998 a b a2 b2 w
theorem ciR{p:Prop}[Decidable p]:(((0:Nat):Int)<((if p then 1 else 0:Nat):Int))↔(if p then 1 else 0:Nat)=1:=by
 by_cases h:p
 ·rw[aN h];decide
 rw[aL h];decide
theorem cbA(ha:a<M2)(hb:b<M2):decide (((0:Nat):Int)<((if a/M1<b/M1+(if a%M1<b%M1+0 then 1 else 0)then 1 else 0:Nat):Int))=decide (a<b):=aT.2 (ciR.trans (buM ha hb))
theorem chV(x y:Nat):(if x<y+0 then 1 else 0:Nat)≤1:=by split<;>omega
theorem awU(a b:Nat)(ha:a<M2)(hb:b<M2):Fn 244 [u2 a,u2 b] (.tuple [u2 ((a+M2-b)%M2),.bool (decide (a<b))]):=by
 intro H;refine .of_body func244 rfl ntmps244 results244 rfl ?_;iterate 4 refine AX ?_
 refine .al zr149 (λb4 hb4=>?_);iterate 5 refine AX ?_
 refine .p rfl (zA U149 rfl Z22 (tm rfl)) ?_;refine AX ?_;refine .p rfl (zA U149 rfl Z22 (tm rfl)) ?_;refine AX ?_;refine .ext rfl ext292 (.cons (tm rfl) (.cons (tm rfl) (.cons (zR 0) .nil))) (bsK) ?_;iterate 9 refine AX ?_
 refine .p rfl (zA U149 rfl Z22 (tm rfl)) ?_;refine AX ?_;refine .p rfl (zA U149 rfl Z22 (tm rfl)) ?_;refine AY ?_;refine .ext rfl ext292 (evs3 rfl rfl rfl) (bfX (x:=a/M1) (y:=b/M1) (c:=(if a%M1<b%M1+0 then 1 else 0)) (chV _ _)) ?_;refine AY ?_;refine .p rfl (zX zr149 pl149 (.cons (tm rfl) (.inl rfl) (.cons (tm rfl) (.inl rfl) .nil)) rfl) ?_;refine AX ?_;refine AM ?_;iterate 4 refine AX ?_
 refine .frz (t:=4) rfl (hb4) ?_;refine AY ?_;refine⟨?_,rfl⟩;rw[←cbA ha hb];unfold u2 w2;rw[clS ha hb,clR hb];rfl
theorem bhE(v:Nat)(n:Nat)(hn:64≤n∧n<128)(q:Int)(hq:q=(n:Int)):Fn 187 [u2 v,.int .i64 q] (u2 (v*2^n%M2)):=by
 intro H;subst hq;refine .of_body func187 rfl ntmps187 results187 rfl ?_;refine AY ?_;refine .al zr149 (λb4 hb4=>?_);iterate 7 refine AX ?_
 iterate 4 refine AX ?_
 rw[show bfM (n:Int) 0=(n:Int) by simp only[bfM];split<;>omega];iterate 5 refine AX ?_
 refine .cond_true (tm rfl) (by exact aY aA) ?_;iterate 2 refine AX ?_
 refine .p rfl (zA U149 rfl Z22 (tm rfl)) ?_;iterate 3 refine AX ?_
 refine .p rfl (.as (b:=.int .i64 ((n-64:Nat):Int)) (by simp only[btO];split<;>(congr 1;omega)) (beL (tm rfl) zH)) ?_;refine AX ?_;refine .p rfl (zX zr149 pl149 (.cons (tm rfl) (.inl rfl) (.cons (zR 0) (.inl rfl) .nil)) rfl) ?_;iterate 3 refine AX ?_
 refine .frz (t:=4) rfl (hb4) ?_;refine AY ?_;refine⟨?_,rfl⟩;obtain⟨e1,e2⟩:=ciC (v:=v) hn.1;unfold u2 w2;rw[e1,e2];rfl
theorem bkK:(((a/M1:Nat):Int)=((b/M1:Nat):Int)∧((a%M1:Nat):Int)=((b%M1:Nat):Int))↔a=b:=by
 have:=(@bzK a b).2;omega
theorem bkJ:(decide (((a/M1:Nat):Int)<((b/M1:Nat):Int))||(decide (((a/M1:Nat):Int)=((b/M1:Nat):Int))&&decide (((a%M1:Nat):Int)<((b%M1:Nat):Int))))=decide (a<b):=by
 rw[←Bool.decide_and,←Bool.decide_or];refine aT.2 ?_;have:=(@bzK a b).1;omega
theorem bpE(a b:Nat):Fn 251 [u2 a,u2 b] (.int .i64 (if a=b then 0 else if a<b then-1 else 1)):=by
 intro H;refine .of_body func251 rfl ntmps251 results251 rfl ?_;iterate 13 refine AX ?_
 refine .p rfl (qC eqGuardType149 (tm rfl) (tm rfl) (eq2 _ _ _ _)) ?_;iterate 3 refine AX ?_
 refine .cx rfl (λhc5=>?_) (λhc5=>?_)
 ·have hab:=bkK.1 hc5;iterate 9 refine AX ?_
  refine⟨?_,rfl⟩;rw[aN hab];rfl
 have hab:¬a=b:=λh=>hc5 (bkK.2 h);refine .seqTo 9 (.bool (decide (a<b))) [4] ?_ ?_
 ·refine AX ?_;refine .p rfl (zA U149 rfl Z22 (tm rfl)) ?_;refine AX ?_;refine .p rfl (zA U149 rfl Z22 (tm rfl)) ?_;refine AY ?_;refine zC (t:=15) rfl (λhg15=>?_) (λhg15=>?_)
  ·refine AY ?_;exact⟨rfl,zL rfl (by(rw[←bkJ,hg15];rfl)) (zI rfl yJ),rfl⟩
  refine .gp rfl rfl rfl aB (zA U149 rfl Z22 (tm rfl)) ?_;refine AX ?_;refine .gp rfl rfl rfl aB (zA U149 rfl Z22 (tm rfl)) ?_;refine AY ?_;refine zC (t:=21) rfl (λhg21=>?_) (λhg21=>?_)
  ·refine .gp rfl rfl rfl aB (zA U149 rfl Z22 (tm rfl)) ?_;refine AX ?_;refine .gp rfl rfl rfl aB (zA U149 rfl Z22 (tm rfl)) ?_;refine AY ?_;exact⟨rfl,zL rfl (by(rw[←bkJ,hg15,hg21];rfl)) (zI rfl yJ),rfl⟩
  refine AY ?_;exact⟨rfl,zL rfl (by(rw[←bkJ,hg15,hg21];rfl)) (zI rfl yJ),rfl⟩
 refine .sub [(9,_),(4,_)] sX ?_;refine .cx rfl (λhc9=>?_) (λhc9=>?_)
 ·refine AY ?_;refine⟨?_,rfl⟩;rw[aL hab,aN hc9];rfl
 refine AY ?_;refine⟨?_,rfl⟩;rw[aL hab,aI];rfl
end
theorem ceE{q:Nat}(hi:q*y1+r=u)(h1:¬B≤q)(h:¬B*r+u1<q*y0)(hy:0<y1*B+y0)(hq:(u*B+u1)/(y1*B+y0)≤q):q=(u*B+u1)/(y1*B+y0):=by
 refine Nat.le_antisymm ?_ hq;rw[dJ hy,cA,←hi,bT,←bH,bK r B];omega
theorem ceG{q:Nat}(hi:q*y1+r=u)(hB:0<B)(hu:u<y1*B+y0)(h1:u1<B)(h:B≤q∨B*r+u1<q*y0)(hq:(u*B+u1)/(y1*B+y0)≤q):
  1≤q∧(u*B+u1)/(y1*B+y0)≤q-1∧(q-1)*y1+(r+y1)=u:=by
 have hy:0<y1*B+y0:=by omega
 have hlt:(u*B+u1)/(y1*B+y0)<q:=by
  rcases h with h|h
  ·refine bM ?_ h;rw[bR hy];have h3:=bC B (show u+1≤y1*B+y0 from hu);rw[bT,cK]at h3;rw[bK B (y1*B+y0)];omega
  rw[bR hy,cA,←hi,bT,←bH,bK r B];omega
 have hp:1≤q:=aU (Nat.zero_le _) hlt;refine⟨hp,Nat.le_sub_one_of_lt hlt,?_⟩;have h5:q*y1=(q-1)*y1+y1:=by
  rw[←Nat.succ_mul,Nat.succ_eq_add_one,Nat.sub_add_cancel hp]
 omega
theorem bzG{q:Nat}(hi:q*y1+r=u)(hq1:q≤B)(h0:y0≤B)(hr:B≤r)(hy:0<y1*B+y0)(hq:(u*B+u1)/(y1*B+y0)≤q):q=(u*B+u1)/(y1*B+y0):=by
 refine Nat.le_antisymm ?_ hq;have h3:q*y0≤B*r:=cS hq1 (aZ h0 hr);rw[dJ hy,cA,←hi,bT,←bH,bK r B];omega
theorem bzE(hB:B≤2*y1)(h0:y0<B)(h1:u1<B)(hu:u<y1*B+y0):u/y1≤B+1∧(u*B+u1)/(y1*B+y0)≤u/y1:=by
 have hy1:0<y1:=by omega
 have hy:0<y1*B+y0:=by omega
 constructor
 ·refine Nat.le_of_lt_succ ?_;rw[bR hy1,Nat.succ_eq_add_one,bT,bT,cK,bK B y1];omega
 refine Nat.le_of_lt_succ ?_;have hd:=cH u y1;have hm:=bU u hy1;rw[bR hy,Nat.succ_eq_add_one,cA];generalize u/y1=q at *;have e1:(q+1)*(y1*B)=(y1*q+y1)*B:=by rw[←bH,bT,cK,bK q y1]
 have e2:(u+1)*B≤(y1*q+y1)*B:=bC B aA;rw[bT,cK]at e2;omega
theorem boH{u0:Nat}(hY:0<Y):(a*B+u0)/Y=a/Y*B+(a%Y*B+u0)/Y∧(a*B+u0)%Y=(a%Y*B+u0)%Y:=by
 have hd:=cH a Y;have e:a*B+u0=Y*(a/Y*B)+(a%Y*B+u0):=by
  have:a*B=Y*(a/Y*B)+a%Y*B:=by
   rw[←bH,←bT,hd]
  omega
 constructor
 ·rw[e,fK hY]
 rw[e,fJ]
theorem bxT{M q:Nat}(hM:Y≤M)(hq:q=u/Y)(hY:0<Y)(ha:a%M=u%M):(a+(M-q*Y%M))%M=u%Y:=by
 have hd:=cH u Y;have hm:=bU u hY;have hM0:0<M:=bM hY hM;rw[←hq,bK Y q]at hd;have h1:(a+(M-q*Y%M))%M=(u+(M-q*Y%M))%M:=by rw[Nat.add_mod,ha,←Nat.add_mod]
 rw[h1,←hd];have hl:=bU (q*Y) hM0;have hdm:=cH (q*Y) M;have e:q*Y+u%Y+(M-q*Y%M)=u%Y+M*(q*Y/M+1):=by
  rw[cA,fG];omega
 have e3:(q*Y+u%Y)%Y=u%Y:=by rw[hd]
 rw[e3,e,dU,bE (bM hm hM)]
theorem bkF{hi lo s:Nat}(hs:s≤64):(hi*18446744073709551616+lo)*2^s=((hi*2^s+lo/2^(64-s))*4294967296+lo*2^s%18446744073709551616/4294967296)*4294967296+lo*2^s%18446744073709551616%4294967296:=by
 have e1:lo/2^(64-s)=lo*2^s/18446744073709551616:=by
  have h64:(18446744073709551616:Nat)=2^(64-s)*2^s:=by rw[←bI,Nat.sub_add_cancel hs]
  rw[h64,eP _ _ (bO aC)]
 rw[e1,bT,Nat.mul_right_comm];generalize lo*2^s=a;generalize hi*2^s=b;omega
theorem byX{x s u32 u0:Nat}(hy:0<y)(hY:Y=y*2^s)(hU:x*2^s=(u32*B+u1)*B+u0):
  (u32*B+u1)/Y*B+((u32*B+u1)%Y*B+u0)/Y=x/y∧((u32*B+u1)%Y*B+u0)%Y/2^s=x%y:=by
 have hp:0<2^s:=bO aC;have hY0:0<Y:=by rw[hY];exact fP hy hp
 obtain⟨h1,h2⟩:=boH (B:=B) (a:=u32*B+u1) (u0:=u0) hY0;rw[←h1,←h2,←hU,hY,eP _ _ hp,fL,fO _ hp];exact⟨rfl,rfl⟩
theorem cmK(h:r%2^(k+1)=0):r|||2^k=r+2^k:=by
 obtain⟨c,rfl⟩:=Nat.dvd_of_mod_eq_zero h;rw[bK,←Nat.shiftLeft_eq];exact(Nat.shiftLeft_add_eq_or_of_lt (eC aC (gN k)) c).symm
theorem byB{m:Nat}(hk:0<k):(m/2^(k-1)%2=1∨m%2^(k-1)≠0)↔m%2^k≠0:=by
 obtain⟨j,rfl⟩:∃j,k=j+1:=⟨k-1,by omega⟩;rw[gA,Nat.mod_pow_succ];have hp:0<2^j:=bO aC;rcases Nat.mod_two_eq_zero_or_one (m/2^j)with h|h
 ·rw[h,dQ,cB];simp
 rw[h,fG];simp
theorem byD{m:Nat}(hk:0<k):m/2^(k-1)/2=m/2^k:=by
 obtain⟨j,rfl⟩:∃j,k=j+1:=⟨k-1,by omega⟩;rw[gA,bY,bQ]
section
open Go Go.RowKit
set_option maxRecDepth 100000
theorem azD(x:Nat):x&&&4294967295=x%4294967296:=dC x 32
theorem cjB(h0:0<y)(h:y<18446744073709551616):64-zY y≤64∧y*2^(64-zY y)<18446744073709551616∧9223372036854775808≤y*2^(64-zY y):=by
 have hb:zY y≤64:=yQ.2 (dE h aC);have h1:0<zY y:=qQ.2 (by rw[dI];exact h0);have h2:y<2^zY y:=yQ.1 (aV _);have h3:2^(zY y-1)≤y:=qQ.1 aA;refine⟨by omega,?_,?_⟩
 ·have:=(Nat.mul_lt_mul_right (a:=2^(64-zY y)) (bO aC)).2 h2;rw[←bI,show zY y+(64-zY y)=64 by omega]at this;exact dE this aC
 have:=bC (2^(64-zY y)) h3;rw[←bI,show zY y-1+(64-zY y)=63 by omega]at this;exact aZ aC this
theorem coA{hi lo s:Nat}(hs:s≤64)(h:hi<y)(hl:lo<18446744073709551616):lo/2^(64-s)<2^s∧hi*2^s+lo/2^(64-s)<y*2^s:=by
 have h1:lo/2^(64-s)<2^s:=by
  rw[bR (bO aC),←bI,show s+(64-s)=64 by omega];exact dE hl aC
 have h2:=bC (2^s) (show hi+1≤y from h);rw[bT,cK]at h2;exact⟨h1,by omega⟩
def caG(u u1 y1 y0 q r:Nat):Prop:=q*y1+r=u∧q≤4294967297∧(u*4294967296+u1)/(y1*4294967296+y0)≤q∧r<4294967296
theorem bgE(hy:2147483648≤y1)(hy1:y1<4294967296)(h0:y0<4294967296)(h1:u1<4294967296)(hu:u<y1*4294967296+y0):caG u u1 y1 y0 (u/y1) (u-u/y1*y1):=by
 obtain⟨a,b⟩:=bzE (B:=4294967296) aA h0 h1 hu;have hd:=cH u y1;have hm:=bU u (show 0<y1 by omega);rw[bK]at hd;exact⟨by omega,a,b,by omega⟩
theorem bzF{q:Nat}(hk:caG u u1 y1 y0 q r)(hy:0<y1*4294967296+y0)(h1:¬4294967296≤q)(h:¬4294967296*r+u1<q*y0):q=(u*4294967296+u1)/(y1*4294967296+y0):=ceE hk.1 h1 h hy hk.2.2.1
theorem boL{q:Nat}(hk:caG u u1 y1 y0 q r)(hu:u<y1*4294967296+y0)(h1:u1<4294967296)(h:4294967296≤q∨4294967296*r+u1<q*y0):1≤q∧(q-1)*y1+(r+y1)=u∧(u*4294967296+u1)/(y1*4294967296+y0)≤q-1:=by
 obtain⟨a,b,c⟩:=ceG hk.1 aC hu h1 h hk.2.2.1;exact⟨a,c,b⟩
theorem bzD{q:Nat}(hq:q≤4294967297)(h1:1≤q)(hn:(q-1)*y1+(r+y1)=u)(hb:(u*4294967296+u1)/(y1*4294967296+y0)≤q-1)(h0:y0<4294967296)(hr:4294967296≤r+y1)(hy:0<y1*4294967296+y0):q-1=(u*4294967296+u1)/(y1*4294967296+y0):=bzG hn aA (cT h0) hr hy hb
theorem cgY(h1:u1<4294967296)(hu:u<Y):(u*4294967296+u1)/Y<4294967296:=by
 rw[bR aA];have:=bC 4294967296 (show u+1≤Y from hu);rw[bT,cK,bK Y]at this;omega
theorem bxU{q:Nat}(hM:Y≤18446744073709551616)(hq:q=(u*4294967296+u1)/Y)(hY:0<Y):((u*4294967296%18446744073709551616+u1)%18446744073709551616+(18446744073709551616-q*Y%18446744073709551616))%18446744073709551616=(u*4294967296+u1)%Y:=
 bxT hM hq hY aA
theorem cmD{q:Nat}(h1:q<4294967296)(h2:y<4294967296):q*y<18446744073709551616:=aU (cS (Nat.le_pred_of_lt h1) (Nat.le_pred_of_lt h2)) aC
theorem btJ(x:Nat)(hx:x<18446744073709551616):Fn 236 [.int .u64 (x:Int)] (.int .i64 ((64-zY x:Nat):Int)):=by
 intro H;have hb:=(yQ (n:=x) (k:=64)).2 (dE hx aC);refine .of_body func236 rfl ntmps236 results236 rfl ?_;refine AY ?_;refine .cl rfl C182 (evs1 rfl) (len64A _ aB _) ?_;refine AY ?_;refine⟨?_,rfl⟩;simp only[yD];congr 1;omega
def cnC(Y s y1 y0 u32 u1 u0 u21 q1:Nat)(H:Heap):Nat→Env→Heap→Prop:=λk env H1=>∃q r:Nat,caG u32 u1 y1 y0 q r∧env=[(2,.int .u64 ((Y:Nat):Int)),(6,.int .u64 ((0:Nat):Int)),(7,.int .u64 ((0:Nat):Int)),(8,.int .u64 ((s:Nat):Int)),(9,.int .u64 ((y1:Nat):Int)),(10,.int .u64 ((y0:Nat):Int)),(11,.int .u64 ((u32:Nat):Int)),(13,.int .u64 ((u1:Nat):Int)),(14,.int .u64 ((u0:Nat):Int)),(15,.int .u64 ((q:Nat):Int)),(16,.int .u64 ((r:Nat):Int))]∧H=H1∧k=q
def cnB(Y s y1 y0 u32 u1 u0 u21 q1:Nat)(H:Heap):Nat→Env→Heap→Prop:=λk env H1=>∃q r:Nat,caG u21 u0 y1 y0 q r∧env=[(2,.int .u64 ((Y:Nat):Int)),(6,.int .u64 ((0:Nat):Int)),(7,.int .u64 ((0:Nat):Int)),(8,.int .u64 ((s:Nat):Int)),(9,.int .u64 ((y1:Nat):Int)),(10,.int .u64 ((y0:Nat):Int)),(14,.int .u64 ((u0:Nat):Int)),(15,.int .u64 ((q1:Nat):Int)),(16,.int .u64 ((r:Nat):Int)),(17,.int .u64 ((u21:Nat):Int)),(18,.int .u64 ((q:Nat):Int))]∧H=H1∧k=q
theorem blI(hi lo y:Nat)(hh:hi<y)(hl:lo<18446744073709551616)(hy:y<18446744073709551616)(H:Heap):ACall prog 183 [.int .u64 (hi:Int),.int .u64 (lo:Int),.int .u64 (y:Int)] H (λz H'=>z= .tuple [.int .u64 (((hi*18446744073709551616+lo)/y:Nat):Int),.int .u64 (((hi*18446744073709551616+lo)%y:Nat):Int)]∧H'=H):=by
 obtain⟨hs64,hYlt0,hYge0⟩:=cjB (show 0<y by omega) hy;obtain⟨s,hs⟩:∃s,s=64-zY y:=⟨_,rfl⟩;rw[←hs]at hs64 hYlt0 hYge0;obtain⟨hlo2,hun0⟩:=coA hs64 hh hl;have hhi:hi*2^s<18446744073709551616:=cL (aU (fX _ _) hun0) hYlt0;refine ACall.of_body func183 rfl ntmps183 results183 rfl ?_;iterate 13 refine AM ?_
 refine AWP.cond_false (tm rfl) (by exact bB aA) ?_;iterate 10 refine AX ?_
 refine AWP.cond_false (tm rfl) (by exact bB aA) ?_;iterate 9 refine AM ?_
 refine AWP.cond (tm rfl) (λhc27=>?_) (λhc27=>?_)
 ·try simp only[aO]at hc27
  refine AX ?_;refine AWP.draw [(0,true),(1,true),(2,true),(3,true),(4,true),(5,true),(6,true),(7,true)] rfl aE ?_;iterate 5 refine AX ?_
  refine .p rfl rfl (aiJ (tm rfl) (tm rfl) aA) ?_;iterate 6 refine AX ?_
  refine Ret.go (.cons (.tmp _ _ rfl) (.cons (.tmp _ _ rfl) .nil)) _ (hRa _) ?_;refine⟨?_,rfl⟩;have h0:hi=0:=by omega
  rw[h0,dV,bZ];rfl
 try simp only[aM]at hc27
 iterate 5 refine AX ?_
 refine .cl rfl call236 (evs1 rfl) (btJ y hy _) ?_;rw[←hs];iterate 8 refine AX ?_
 refine .p rfl (qB (tm rfl) (tm rfl) aA (by exact hYlt0)) ?_;iterate 21 refine AM ?_
 refine .p rfl (qB (tm rfl) (tm rfl) aA (by exact hhi)) ?_;refine AX ?_;refine .mv rfl rfl (.p rfl (abE (zR 64) (tm rfl) aA aA) (.p rfl (aaC (tm rfl) (tm rfl) aB) (.p rfl (abU (tm rfl) (tm rfl) aB aA) ?_)));iterate 22 refine AM ?_
 refine .as rfl rfl (.nil ?_);refine Next.go ?_;refine .seq ?_;have hor:(hi*2^s|||lo/2^(64-s))=hi*2^s+lo/2^(64-s):=akM hlo2;have hdv:=bkF (hi:=hi) (lo:=lo) hs64;rw[hor,azD,azD];have hpw:(2:Nat)^32=4294967296:=by decide
 rw[hpw];obtain⟨Y,hY⟩:∃Y,Y=y*2^s:=⟨_,rfl⟩;obtain⟨u32,hU⟩:∃u,u=hi*2^s+lo/2^(64-s):=⟨_,rfl⟩;obtain⟨un,hn⟩:∃u,u=lo*2^s%18446744073709551616:=⟨_,rfl⟩;rw[←hY,←hU,←hn];rw[←hn,←hU]at hdv;rw[←hY,←hU]at hun0;rw[←hY]at hYlt0 hYge0;have hun64:un<18446744073709551616:=by rw[hn];exact bU _ aC
 obtain⟨y1,hy1⟩:∃v,v=Y/4294967296:=⟨_,rfl⟩;obtain⟨y0,hy0⟩:∃v,v=Y%4294967296:=⟨_,rfl⟩;obtain⟨u1,hu1⟩:∃v,v=un/4294967296:=⟨_,rfl⟩;obtain⟨u0,hu0⟩:∃v,v=un%4294967296:=⟨_,rfl⟩;rw[←hy1,←hy0,←hu1,←hu0];rw[←hu1,←hu0]at hdv;have hYs:Y=y1*4294967296+y0:=by omega
 have hly0:y0<4294967296:=by omega
 have hly1:2147483648≤y1∧y1<4294967296:=by omega
 have hlu1:u1<4294967296:=by omega
 have hlu0:u0<4294967296:=by omega
 have hu64:u32<18446744073709551616:=by omega
 have hY0:0<y1*4294967296+y0:=by omega
 have hu32:u32<Y:=hun0;have hbeg:=bgE hly1.1 hly1.2 hly0 hlu1 (by rw[←hYs];exact hu32);have hyp:0<y:=by omega
 clear hun64 hhi hor;iterate 12 refine AX ?_
 refine .p rfl (abF (tm rfl) (tm rfl) (by exact aU (eZ _ _) hu64)) (.p rfl (abE (tm rfl) (tm rfl) (eZ _ _) (hu64)) ?_);iterate 3 refine AX ?_
 refine AWP.meet (λenv H2=>env=[(2,.int .u64 ((Y:Nat):Int)),(6,.int .u64 ((0:Nat):Int)),(7,.int .u64 ((0:Nat):Int)),(8,.int .u64 ((s:Nat):Int)),(9,.int .u64 ((y1:Nat):Int)),(10,.int .u64 ((y0:Nat):Int)),(11,.int .u64 ((u32:Nat):Int)),(13,.int .u64 ((u1:Nat):Int)),(14,.int .u64 ((u0:Nat):Int)),(15,.int .u64 (((u32*4294967296+u1)/Y:Nat):Int))]∧H=H2) ?_ ?_
 ·refine AX ?_;refine AWP.loopW (cnC Y s y1 y0 u32 u1 u0 0 0 H) (u32/y1) ⟨u32/y1,u32-u32/y1*y1,hbeg,rfl,rfl,rfl⟩ sX (hRa _) ?_;rintro _ _ _ ⟨q,r,hdig,rfl,rfl,hk⟩;have hdd:=hdig;obtain⟨he1,he2,he3,he4⟩:=hdd;refine AX ?_;refine AWP.seqTo 78 (.bool (decide (((4294967296:Nat):Int)≤(q:Int))||decide (((4294967296*r+u1:Nat):Int)<((q*y0:Nat):Int)))) [2,6,7,8,9,10,11,13,14,15,16] ?_ ?_
  ·iterate 4 refine AM ?_
   refine zC (t:=69) rfl (λhg69=>?_) (λhg69=>?_)
   ·have hh69:=hg69;try simp only[aO]at hh69
    iterate 2 refine AX ?_
    refine .gn rfl rfl rfl aB (.gn rfl rfl rfl aB (.gn rfl rfl rfl aB (.gn rfl rfl rfl aB (.gn rfl rfl rfl aB (.gn rfl rfl rfl aB (.p rfl (yS (tm rfl) aB yK) (.nil ?_)))))));exact⟨rfl,zL rfl (by(rw[hg69];rfl)) sX,rfl⟩
   have hh69:=hg69;try simp only[aM,dO]at hh69
   refine .gp rfl rfl rfl aB (zP (tm rfl)) (.gp rfl rfl rfl aB (zP (tm rfl)) (.gp rfl rfl rfl aB (abF (tm rfl) (tm rfl) (by exact cmD aA hly0)) (.gp rfl rfl rfl aB (zP (tm rfl)) (.gp rfl rfl rfl aB (abF (zR 4294967296) (tm rfl) aA) (.gp rfl rfl rfl aB (zP (tm rfl)) (.gp rfl rfl rfl aB (yV (tm rfl) (tm rfl) aA) (.gp rfl rfl rfl aB (afS (tm rfl) (tm rfl)) (.p rfl (qY (tm rfl) aB (tm rfl)) ?_))))))));refine .nil ?_;exact⟨rfl,zL rfl (by(rw[hg69];rfl)) sX,rfl⟩
  refine AWP.sub [(78,_),(2,_),(6,_),(7,_),(8,_),(9,_),(10,_),(11,_),(13,_),(14,_),(15,_),(16,_)] sX ?_;refine AWP.cond (tm rfl) (λhc78=>?_) (λhc78=>?_)
  ·try simp only[aK]at hc78
   have hcq:4294967296≤q∨4294967296*r+u1<q*y0:=by simp only[cN,aO]at hc78;rcases hc78 with h|h;exact .inl (by exact_mod_cast h);exact .inr (by exact_mod_cast h)
   obtain⟨hq1,hqn,hqb⟩:=boL hdig (by rw[←hYs];exact hu32) hlu1 hcq;obtain⟨hd1,hd2,hd3,hd4⟩:=hdig;refine .skip ?_;refine Next.go ?_;refine .block (.seq (.region (.mv rfl rfl (.p rfl (abE (tm rfl) (zR 1) aA aA) (.as rfl rfl (.nil ?_))))));refine Next.go ?_;refine .seq (.region (.mv rfl rfl (.mv rfl rfl (.p rfl (yV (tm rfl) (tm rfl) aA) (.as rfl rfl (.nil ?_))))));refine Next.go ?_;refine .seq (.region (.mv rfl rfl (.p rfl (afT (tm rfl) (zR 4294967296)) (.nil ?_))));refine Next.go ?_;refine AWP.cond (tm rfl) (λhc85=>?_) (λhc85=>?_)
   ·try simp only[aO]at hc85
    refine .exit ?_;refine Block.miss rfl ?_;refine Next.ex ?_;refine Block.hit ?_;refine Next.go ?_;refine Meets.mk (M:=λenv H2=>env=[(2,.int .u64 ((Y:Nat):Int)),(6,.int .u64 ((0:Nat):Int)),(7,.int .u64 ((0:Nat):Int)),(8,.int .u64 ((s:Nat):Int)),(9,.int .u64 ((y1:Nat):Int)),(10,.int .u64 ((y0:Nat):Int)),(11,.int .u64 ((u32:Nat):Int)),(13,.int .u64 ((u1:Nat):Int)),(14,.int .u64 ((u0:Nat):Int)),(15,.int .u64 (((u32*4294967296+u1)/Y:Nat):Int))]∧H=H2) ⟨rfl,rfl⟩ (zI rfl (zI rfl (zI rfl (zI rfl (zI rfl (zI rfl (zI rfl (zI rfl (zI rfl (zM rfl (by rw[hYs,←bzD hd2 hq1 hqn hqb hly0 aA hY0]) yJ)))))))))) (hRa _)
   try simp only[aM,dO]at hc85
   refine .skip ?_;refine Block.go ?_;refine Next.go ?_;refine Round.mk (J:=cnC Y s y1 y0 u32 u1 u0 0 0 H) ⟨q-1,r+y1,⟨hqn,by omega,hqb,by omega⟩,rfl,rfl,rfl⟩ sX (hRa _) aA
  try simp only[aK]at hc78
  have hcq:¬4294967296≤q∧¬4294967296*r+u1<q*y0:=by simp only[cC,aM]at hc78;exact⟨λh=>hc78.1 (by exact_mod_cast h),λh=>hc78.2 (by exact_mod_cast h)⟩
  refine .exit ?_;refine Next.ex ?_;refine Next.ex ?_;refine Block.hit ?_;refine Next.go ?_;refine Meets.mk (M:=λenv H2=>env=[(2,.int .u64 ((Y:Nat):Int)),(6,.int .u64 ((0:Nat):Int)),(7,.int .u64 ((0:Nat):Int)),(8,.int .u64 ((s:Nat):Int)),(9,.int .u64 ((y1:Nat):Int)),(10,.int .u64 ((y0:Nat):Int)),(11,.int .u64 ((u32:Nat):Int)),(13,.int .u64 ((u1:Nat):Int)),(14,.int .u64 ((u0:Nat):Int)),(15,.int .u64 (((u32*4294967296+u1)/Y:Nat):Int))]∧H=H2) ⟨rfl,rfl⟩ (zI rfl (zI rfl (zI rfl (zI rfl (zI rfl (zI rfl (zI rfl (zI rfl (zI rfl (zM rfl (by rw[hYs,←bzF hdig hY0 hcq.1 hcq.2]) yJ)))))))))) (hRa _)
 rintro _ _ ⟨rfl,rfl⟩;refine .seq (.region (.mv rfl rfl (.p rfl (agP (tm rfl) (zR 4294967296)) (.mv rfl rfl (.p rfl (ajE (tm rfl) (tm rfl)) (.mv rfl rfl (.mv rfl rfl (.p rfl (agP (tm rfl) (tm rfl)) ?_))))))));refine .p rfl (amI (tm rfl) (tm rfl) aA) (.as rfl rfl (.nil ?_));refine Next.go ?_;refine .seq ?_;rw[bxU aA rfl aA];obtain⟨u21,hu21e⟩:∃u,u=(u32*4294967296+u1)%Y:=⟨_,rfl⟩;obtain⟨q1,hq1e⟩:∃u,u=(u32*4294967296+u1)/Y:=⟨_,rfl⟩;have hq1l:q1<4294967296:=by rw[hq1e];exact cgY hlu1 hu32
 have hu21:u21<Y:=by rw[hu21e];exact bU _ aA
 have hu21b:u21<18446744073709551616:=by omega
 rw[←hu21e,←hq1e];have hbeg2:=bgE hly1.1 hly1.2 hly0 hlu0 (by rw[←hYs];exact hu21);refine .region (.mv rfl rfl (.mv rfl rfl (.p rfl (alB (tm rfl) (tm rfl) aB aA) (.as rfl rfl (.nil ?_)))));refine Next.go ?_;refine .seq (.region (.mv rfl rfl (.mv rfl rfl (.mv rfl rfl (.p rfl (abF (tm rfl) (tm rfl) (by exact aU (eZ _ _) hu21b)) (.p rfl (abE (tm rfl) (tm rfl) (eZ _ _) (hu21b)) (.as rfl rfl (.nil ?_))))))));refine Next.go ?_;refine AWP.meet (λenv H2=>env=[(2,.int .u64 ((Y:Nat):Int)),(6,.int .u64 ((0:Nat):Int)),(7,.int .u64 ((0:Nat):Int)),(8,.int .u64 ((s:Nat):Int)),(14,.int .u64 ((u0:Nat):Int)),(15,.int .u64 ((q1:Nat):Int)),(17,.int .u64 ((u21:Nat):Int)),(18,.int .u64 (((u21*4294967296+u0)/Y:Nat):Int))]∧H=H2) ?_ ?_
 ·refine .block ?_;refine AWP.loopW (cnB Y s y1 y0 u32 u1 u0 u21 q1 H) (u21/y1) ⟨u21/y1,u21-u21/y1*y1,hbeg2,rfl,rfl,rfl⟩ sX (hRa _) ?_;rintro _ _ _ ⟨q,r,hdig,rfl,rfl,hk⟩;have hdd:=hdig;obtain⟨he1,he2,he3,he4⟩:=hdd;refine .seq ?_;refine AWP.seqTo 113 (.bool (decide (((4294967296:Nat):Int)≤(q:Int))||decide (((4294967296*r+u0:Nat):Int)<((q*y0:Nat):Int)))) [2,6,7,8,9,10,14,15,16,17,18] ?_ ?_
  ·refine .region (.mv rfl rfl (.p rfl (afT (tm rfl) (zR 4294967296)) (.mv rfl rfl ?_)));refine zC (t:=104) rfl (λhg104=>?_) (λhg104=>?_)
   ·have hh104:=hg104;try simp only[aO]at hh104
    refine .gn rfl rfl rfl aB (.gn rfl rfl rfl aB (.gn rfl rfl rfl aB (.gn rfl rfl rfl aB (.gn rfl rfl rfl aB (.gn rfl rfl rfl aB (.gn rfl rfl rfl aB (.gn rfl rfl rfl aB (.p rfl (yS (tm rfl) aB yK) ?_))))))));refine .nil ?_;exact⟨rfl,zL rfl (by(rw[hg104];rfl)) sX,rfl⟩
   have hh104:=hg104;try simp only[aM,dO]at hh104
   refine .gp rfl rfl rfl aB (zP (tm rfl)) (.gp rfl rfl rfl aB (zP (tm rfl)) (.gp rfl rfl rfl aB (abF (tm rfl) (tm rfl) (by exact cmD aA hly0)) (.gp rfl rfl rfl aB (zP (tm rfl)) (.gp rfl rfl rfl aB (abF (zR 4294967296) (tm rfl) aA) (.gp rfl rfl rfl aB (zP (tm rfl)) (.gp rfl rfl rfl aB (yV (tm rfl) (tm rfl) aA) (.gp rfl rfl rfl aB (afS (tm rfl) (tm rfl)) (.p rfl (qY (tm rfl) aB (tm rfl)) ?_))))))));refine .nil ?_;exact⟨rfl,zL rfl (by(rw[hg104];rfl)) sX,rfl⟩
  refine AWP.sub [(113,_),(2,_),(6,_),(7,_),(8,_),(9,_),(10,_),(14,_),(15,_),(16,_),(17,_),(18,_)] sX ?_;refine AWP.cond (tm rfl) (λhc113=>?_) (λhc113=>?_)
  ·try simp only[aK]at hc113
   have hcq:4294967296≤q∨4294967296*r+u0<q*y0:=by simp only[cN,aO]at hc113;rcases hc113 with h|h;exact .inl (by exact_mod_cast h);exact .inr (by exact_mod_cast h)
   obtain⟨hq1,hqn,hqb⟩:=boL hdig (by rw[←hYs];exact hu21) hlu0 hcq;obtain⟨hd1,hd2,hd3,hd4⟩:=hdig;refine .skip ?_;refine Next.go ?_;refine .block (.seq (.region (.mv rfl rfl (.p rfl (abE (tm rfl) (zR 1) aA aA) (.as rfl rfl (.nil ?_))))));refine Next.go ?_;refine .seq (.region (.mv rfl rfl (.mv rfl rfl (.p rfl (yV (tm rfl) (tm rfl) aA) (.as rfl rfl (.nil ?_))))));refine Next.go ?_;refine .seq (.region (.mv rfl rfl (.p rfl (afT (tm rfl) (zR 4294967296)) (.nil ?_))));refine Next.go ?_;refine AWP.cond (tm rfl) (λhc120=>?_) (λhc120=>?_)
   ·try simp only[aO]at hc120
    refine .exit ?_;refine Block.miss rfl ?_;refine Next.ex ?_;refine Block.hit ?_;refine Next.go ?_;refine Meets.mk (M:=λenv H2=>env=[(2,.int .u64 ((Y:Nat):Int)),(6,.int .u64 ((0:Nat):Int)),(7,.int .u64 ((0:Nat):Int)),(8,.int .u64 ((s:Nat):Int)),(14,.int .u64 ((u0:Nat):Int)),(15,.int .u64 ((q1:Nat):Int)),(17,.int .u64 ((u21:Nat):Int)),(18,.int .u64 (((u21*4294967296+u0)/Y:Nat):Int))]∧H=H2) ⟨rfl,rfl⟩ (zI rfl (zI rfl (zI rfl (zI rfl (zI rfl (zI rfl (zI rfl (zM rfl (by rw[hYs,←bzD hd2 hq1 hqn hqb hly0 aA hY0]) yJ)))))))) (hRa _)
   try simp only[aM,dO]at hc120
   refine .skip ?_;refine Block.go ?_;refine Next.go ?_;refine Round.mk (J:=cnB Y s y1 y0 u32 u1 u0 u21 q1 H) ⟨q-1,r+y1,⟨hqn,by omega,hqb,by omega⟩,rfl,rfl,rfl⟩ sX (hRa _) aA
  try simp only[aK]at hc113
  have hcq:¬4294967296≤q∧¬4294967296*r+u0<q*y0:=by simp only[cC,aM]at hc113;exact⟨λh=>hc113.1 (by exact_mod_cast h),λh=>hc113.2 (by exact_mod_cast h)⟩
  refine .exit ?_;refine Next.ex ?_;refine Next.ex ?_;refine Block.hit ?_;refine Next.go ?_;refine Meets.mk (M:=λenv H2=>env=[(2,.int .u64 ((Y:Nat):Int)),(6,.int .u64 ((0:Nat):Int)),(7,.int .u64 ((0:Nat):Int)),(8,.int .u64 ((s:Nat):Int)),(14,.int .u64 ((u0:Nat):Int)),(15,.int .u64 ((q1:Nat):Int)),(17,.int .u64 ((u21:Nat):Int)),(18,.int .u64 (((u21*4294967296+u0)/Y:Nat):Int))]∧H=H2) ⟨rfl,rfl⟩ (zI rfl (zI rfl (zI rfl (zI rfl (zI rfl (zI rfl (zI rfl (zM rfl (by rw[hYs,←bzF hdig hY0 hcq.1 hcq.2]) yJ)))))))) (hRa _)
 rintro _ _ ⟨rfl,rfl⟩;refine .seq ?_;have hq0l:(u21*4294967296+u0)/Y<4294967296:=cgY hlu0 hu21;refine .region (.mv rfl rfl (.p rfl (abF (tm rfl) (zR 4294967296) aA) (.mv rfl rfl (.p rfl (yV (tm rfl) (tm rfl) aA) (.mv rfl rfl (.p rfl (agP (tm rfl) (zR 4294967296)) (.mv rfl rfl (.p rfl (ajE (tm rfl) (tm rfl)) ?_))))))));refine .mv rfl rfl (.mv rfl rfl (.p rfl (agP (tm rfl) (tm rfl)) (.p rfl (amI (tm rfl) (tm rfl) aA) (.mv rfl rfl (.p rfl (aaC (tm rfl) (tm rfl) (by exact bU _ aC)) ?_)))));refine AY ?_;refine⟨?_,rfl⟩;rw[bxU aA rfl aA];obtain⟨e1,e2⟩:=byX (B:=4294967296) hyp hY hdv;rw[hq1e,hu21e,e1,e2];rfl
end
end Go.Proofs.YtmmgbnolccpjoaaGreatDoor
