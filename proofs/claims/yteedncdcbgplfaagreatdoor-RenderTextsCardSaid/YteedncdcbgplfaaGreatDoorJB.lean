import Derived.Test.YteedncdcbgplfaaGreatDoorJA
set_option maxHeartbeats 1000000
namespace Go.Proofs.YteedncdcbgplfaaGreatDoor
open Go.Proofs.Tryz
open Go Go.RowKit
variable{l:List ItN}
section
section
variable{P:Program}{dst:Option Tmp}{ty:TypeId}{pos:String}{af:Array Go.Edge}{gd:Option (Nat×Bool)}{env:Env}{H:Heap}
end
end
section
open Go Go.RowKit
set_option maxRecDepth 100000
def atF(p:List SecN)(x:Nat):SecN:=if 2≤p.length∧x/9223372036854775808=1∧yT x≠0 then agB p 1 else if 3≤p.length∧yT x=0 then agB p 2 else agB p 0
def SecN.avS(s:SecN):AV:=.agg (s.cs .shared)
theorem aoL(p:List SecN)(tp:Tail)(hp:1≤p.length∧p.length≤4)(x:Nat)(hx:x<18446744073709551616):Fn 33 [.agg [aeK p tp],.int .u64 (x:Int)] ((atF p x).avS):=by
 intro H;refine .of_body func33 rfl ntmps33 results33 rfl ?_;iterate 3 refine AX ?_
 refine .s rfl (abA V52 (zr52)) ?_;rintro _ _ ⟨b4,hb4,rfl,hH⟩;obtain rfl:=hH.symm;iterate 5 refine AX ?_
 refine .cl rfl C31 (evs1 rfl) (acK _ aB _) ?_;iterate 7 refine AX ?_
 refine .p rfl (zA U24 rfl Z22 (tm rfl)) ?_;iterate 6 refine AX ?_
 refine .seqTo 13 (.bool (decide (2≤p.length∧x/9223372036854775808=1∧yT x≠0))) [2,4,5,6] ?_ ?_
 ·iterate 4 refine AX ?_
  refine zB (t:=16) rfl (λhg16=>?_) (λhg16=>?_)
  ·have hh16:=hg16;try simp only[aK]at hh16
   iterate 5 refine AM ?_
   refine zB (t:=21) rfl (λhg21=>?_) (λhg21=>?_)
   ·have hh21:=hg21;try simp only[aK]at hh21
    iterate 5 refine AX ?_
    exact⟨rfl,zP rfl (by(refine Eq.symm ?_;first|(rw[←decide_not];exact aN.2 aA)|exact aN.2 aA|exact aP aA|exact aO aA)) sX,rfl⟩
   have hh21:=hg21;try simp only[aK]at hh21
   iterate 5 refine AX ?_
   exact⟨rfl,zP rfl (by(refine Eq.symm ?_;first|(rw[←decide_not];exact aN.2 aA)|exact aN.2 aA|exact aP aA|exact aO aA)) sX,rfl⟩
  have hh16:=hg16;try simp only[aK]at hh16
  iterate 10 refine AX ?_
  exact⟨rfl,zP rfl (by(refine Eq.symm ?_;first|(rw[←decide_not];exact aN.2 aA)|exact aN.2 aA|exact aP aA|exact aO aA)) sX,rfl⟩
 refine .sub [(13,_),(2,_),(4,_),(5,_),(6,_)] sX ?_;refine .cx rfl (λhc13=>?_) (λhc13=>?_)
 ·iterate 2 refine AX ?_
  refine .p rfl (zA U24 rfl Z22 (tm rfl)) ?_;iterate 6 refine AX ?_
  refine .frz (t:=4) rfl (hb4) ?_;iterate 4 refine AX ?_
  refine⟨?_,rfl⟩;unfold atF;rw[aM hc13,adQ (show 1<p.length by omega)];rfl
 refine .seqTo 29 (.bool (decide (3≤p.length∧yT x=0))) [2,4] ?_ ?_
 ·iterate 4 refine AX ?_
  refine zB (t:=32) rfl (λhg32=>?_) (λhg32=>?_)
  ·have hh32:=hg32;try simp only[aK]at hh32
   iterate 4 refine AX ?_
   exact⟨rfl,zP rfl (by(refine Eq.symm ?_;first|(rw[←decide_not];exact aN.2 aA)|exact aN.2 aA|exact aP aA|exact aO aA)) sX,rfl⟩
  have hh32:=hg32;try simp only[aK]at hh32
  iterate 4 refine AX ?_
  exact⟨rfl,zP rfl (by(refine Eq.symm ?_;first|(rw[←decide_not];exact aN.2 aA)|exact aN.2 aA|exact aP aA|exact aO aA)) sX,rfl⟩
 refine .sub [(29,_),(2,_),(4,_)] sX ?_;refine .cx rfl (λhc29=>?_) (λhc29=>?_)
 ·iterate 2 refine AX ?_
  refine .p rfl (zA U24 rfl Z22 (tm rfl)) ?_;iterate 6 refine AX ?_
  refine .frz (t:=4) rfl (hb4) ?_;iterate 4 refine AX ?_
  refine⟨?_,rfl⟩;unfold atF;rw[aL hc13,aM hc29,adQ (show 2<p.length by omega)];rfl
 iterate 5 refine AX ?_
 refine .p rfl (zA U24 rfl Z22 (tm rfl)) ?_;iterate 6 refine AX ?_
 refine .frz (t:=4) rfl (hb4) ?_;iterate 2 refine AX ?_
 refine⟨?_,rfl⟩;unfold atF;rw[aL hc13,aL hc29,adQ (show 0<p.length by omega)];rfl
theorem zr48:ZR 48 [.slice 2 [] .full,.bool false,.int .i64 0]:=ZRi V48
theorem pl48:PL 48 [(0,1),(1,1),(2,1)]:=PLi U48
end
theorem bmF(h:zO l 6=0):aiU l=zW l [3,5]:=by
 rw[←agP];unfold zW zO at *;rw[List.countP_eq_zero]at h;induction l with
 |nil=>rfl
 |cons x l ih=>
  rw[List.findIdx_cons,List.findIdx_cons,ih (λy hy=>h y (List.mem_cons_of_mem _ hy))];have h6:=h x aF;simp only[aV]at h6;have e:decide (x.kind∈([3,5,6]:List Int))=decide (x.kind∈([3,5]:List Int)):=aN.2 aG;rw[e]
theorem bmH(l:List ItN)(b:Nat)(hb:b≤l.length):(aeY l 0 b).length=zO (l.take b) 2:=by
 induction b with
 |zero=>rfl
 |succ b ih=>
  rw[awW l (Nat.zero_le _),aQ,ih aA];unfold zO;rw[←bN (show b<l.length by omega),List.countP_append,qB (show b<l.length by omega)];by_cases q:(l[b]'aA).kind=2<;>simp[q]
theorem akK{s:SecN}(h:zX s=2∨zX s=3):s.items.all aeA=true∧zO s.items 6=0∧0≤s.scale∧s.scale≤9∧(s.grouped=true→aaA (adJ s.items)=true)∧(s.items.drop (zW s.items [5])≠[]→s.scale=0∧0<zO (s.items.take (zW s.items [5])) 2∧1≤zO (s.items.drop (zW s.items [5])) 2)∧0<zO s.items 2:=by
 obtain⟨l,gr,sc⟩:=s;unfold zX at h;simp only at h ⊢;by_cases h1:l.all aeA=false
 ·rw[aM h1]at h;omega
 rw[aL h1]at h;have hsh:shp l=2∨shp l=3:=by
  split at h
  ·rename_i q;exact .inl q
  split at h
  ·exact h
  omega
 have hx:zO l 6=0∧0<zO l 2∧(shp l=2→(l.drop (zW l [5])).length=0)∧(shp l=3→0<zO (l.take (zW l [5])) 2∧1≤zO (l.drop (zW l [5])) 2):=by
  unfold shp at hsh ⊢
  repeat' split at hsh
  all_goals first|omega|skip
  all_goals (simp only[*,if_true,if_false];try omega)
 obtain⟨x1,x2,x3,x4⟩:=hx;rcases hsh with q|q
 ·rw[aM q]at h;split at h
  ·rename_i g
   refine⟨by simpa using h1,x1,g.1,g.2.1,λw=>g.2.2.2.resolve_left (by rw[w];simp),λw=>absurd (List.eq_nil_of_length_eq_zero (x3 q)) w,x2⟩
  omega
 rw[aI]at h;split at h
 ·rename_i g
  refine⟨by simpa using h1,x1,by omega,by omega,λw=>(by rw[g.1]at w;cases w),λ_=>⟨g.2,(x4 q).1,(x4 q).2⟩,x2⟩
 omega
theorem azN(h:aaA l=true):0<zO l 2:=by
 induction l with
 |nil=>cases h
 |cons x r ih=>
  cases r with
  |nil=>cases h
  |cons y r=>
   unfold aaA at h;rw[Bool.or_eq_true]at h;rcases h with h|h
   ·have hx:=(of_decide_eq_true h).1;unfold zO;rw[List.countP_cons,aM (aP hx)];omega
   have:=ih h;unfold zO at *;rw[List.countP_cons];omega
theorem bhV{a:Nat}(h:1≤zO (l.drop a) 2):aeY l a l.length≠[]:=by
 intro q;unfold zO at h;obtain⟨x,hx,hk⟩:=List.countP_pos_iff.1 (show 0<_ from h);obtain⟨i,hi,rfl⟩:=cH hx;rw[bD]at hi;have hm:a+i∈aeY l a l.length:=abJ.2 ⟨by omega,by omega,by rw[qB (show a+i<l.length by omega)];rw[List.getElem_drop]at hk;exact of_decide_eq_true hk⟩;rw[q]at hm;cases hm
theorem boF(h:zW l [3,5]<zW l [5]):aaJ l (zW l [3,5])=3:=by
 have hl:=qZ l [5];have hk:zW l [3,5]<l.length:=by omega
 have h1:decide ((l[zW l [3,5]]).kind∈([3,5]:List Int))=true:=List.findIdx_getElem (p:=λx:ItN=>decide (x.kind∈([3,5]:List Int))) (w:=hk);have h2:¬decide ((l[zW l [3,5]]).kind∈([5]:List Int))=true:=by
  have:=List.not_of_lt_findIdx (p:=λx:ItN=>decide (x.kind∈([5]:List Int))) h;simpa using this
 rw[qB hk];simp at h1 h2;omega
theorem bdB{s:SecN}(h:zX s=2∨zX s=3):(s.grouped=true→(aiY s.items).length≠0)∧((aiY s.items).length=0→zW s.items [3,5]<zW s.items [5]∧aaJ s.items (zW s.items [3,5])=3)∧(zW s.items [5]<s.items.length→aeY s.items (zW s.items [5]) s.items.length≠[]∧s.scale=0):=by
 obtain⟨h1,h2,h3,h4,h5,h6,h7⟩:=akK h;have hc:=qZ s.items [3,5];have hc5:=qZ s.items [5];have hm:=aoA s.items (ks:=[5]) (js:=[3,5]) (λk hk=>List.mem_cons_of_mem _ hk);have he:(aiY s.items).length=zO (s.items.take (zW s.items [3,5])) 2:=bmH _ _ hc;refine⟨λg=>?_,λq=>?_,λq=>?_⟩
 ·have hb:=azN (h5 g);unfold adJ at hb;rw[agP,bmF h2,←he]at hb;omega
 ·have hlt:zW s.items [3,5]<zW s.items [5]:=by
   rcases bO (zW s.items [3,5]) (zW s.items [5])with z|z
   ·exact z
   have e:zW s.items [3,5]=zW s.items [5]:=by omega
   rw[q]at he;rw[e]at he;by_cases hd:s.items.drop (zW s.items [5])=[]
   ·rw[aX (List.drop_eq_nil_iff.1 hd)]at he;omega
   have:=(h6 hd).2.1;omega
  exact⟨hlt,boF hlt⟩
 have hd:s.items.drop (zW s.items [5])≠[]:=by intro z;have:=List.drop_eq_nil_iff.1 z;omega
 exact⟨bhV (h6 hd).2.2,(h6 hd).1⟩
end Go.Proofs.YteedncdcbgplfaaGreatDoor
