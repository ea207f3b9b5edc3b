import Derived.Test.YteedncdcbgplfaaGreatDoorJ1
set_option maxHeartbeats 1000000
namespace Go.Proofs.YteedncdcbgplfaaGreatDoor
open Go.Proofs.Tryz
open Go Go.RowKit
set_option maxRecDepth 100000
theorem aaX(l:List ItN)(ks:List Int):zZ l ks≤l.length:=List.findIdx_le_length
theorem chT{a:List ItN}(h:(((a.length:Nat):Int)-1).toNat<a.length):a[(((a.length:Nat):Int)-1).toNat]=a.getD (a.length-1) ⟨0,[]⟩:=by
 rw[asJ (show a.length-1<a.length by omega)];congr 1;omega
theorem brK(l:List ItN)(gr:Bool)(sc:Int)(tl:Tail)(hl:l.length≤100000):Fn 83 [.agg [itS l tl,.bool gr,.int .i64 sc],.agg (bwL l)] (.int .i64 (shp l)):=by
 intro H;have hn2:=alA l 2;have hn3:=alA l 3;have hn4:=alA l 4;have hn5:=alA l 5;have hn6:=alA l 6;have hn7:=alA l 7;have hn8:=alA l 8;have hn9:=alA l 9;refine .of_body func83 rfl ntmps83 results83 rfl ?_;iterate 28 refine AX ?_
 refine .seqTo 30 (.bool (decide (qM l 7+qM l 8>0∧qM l 2+qM l 3+qM l 4+qM l 5+qM l 6>0))) [2,3,4,5] ?_ ?_
 ·iterate 8 refine AX ?_
  refine zD (t:=37) rfl (λhg37=>?_) (λhg37=>?_)
  ·have hh37:=hg37;try simp only[aL]at hh37
   iterate 5 refine AX ?_
   exact⟨rfl,zS rfl (by(refine Eq.symm ?_;(try rw[hla]at hh114);first|exact aU aA|exact aS (by first|omega|simp[*])|exact aQ.2 aA)) sX,rfl⟩
  have hh37:=hg37;try simp only[aL]at hh37
  iterate 5 refine AX ?_
  exact⟨rfl,zS rfl (by(refine Eq.symm ?_;(try rw[hla]at hh114);first|exact aU aA|exact aS aA|exact aQ.2 (by first|omega|simp[*]))) sX,rfl⟩
 refine .sub [(30,_),(2,_),(3,_),(4,_),(5,_)] sX ?_;refine .cx rfl (λhc30=>?_) (λhc30=>?_)
 ·iterate 10 refine AX ?_
  refine⟨?_,rfl⟩;show AV.int .i64 _=AV.int .i64 (shp l);unfold shp;try simp only[ha6,hb6]
  try simp only[ha5,hb5,hw3,hp3]
  first
  |(rw[aN hc30];done)
  |(rw[aM hc30,aN hc41];done)
  |(rw[aM hc30,aM hc41,aN hc50];done)
  |(rw[aM hc30,aM hc41,aM hc50,aN hc64];done)
  |(rw[aM hc30,aM hc41,aM hc50,aM hc64,aN hc77,aN hc126];done)
  |(rw[aM hc30,aM hc41,aM hc50,aM hc64,aN hc77,aM hc126];done)
  |(rw[aM hc30,aM hc41,aM hc50,aM hc64,aM hc77,aN hc127,aN hc176];done)
  |(rw[aM hc30,aM hc41,aM hc50,aM hc64,aM hc77,aN hc127,aM hc176,aK];done)
  |(rw[aM hc30,aM hc41,aM hc50,aM hc64,aM hc77,aN hc127,aM hc176,aJ,aN hc205];done)
  |(rw[aM hc30,aM hc41,aM hc50,aM hc64,aM hc77,aN hc127,aM hc176,aJ,aM hc205];done)
  |(rw[aM hc30,aM hc41,aM hc50,aM hc64,aM hc77,aM hc127];done)
 refine .seqTo 41 (.bool (decide (qM l 7=1∧qM l 8=0))) [2,3,4,5] ?_ ?_
 ·iterate 5 refine AX ?_
  refine zD (t:=45) rfl (λhg45=>?_) (λhg45=>?_)
  ·have hh45:=hg45;try simp only[aL]at hh45
   iterate 6 refine AX ?_
   exact⟨rfl,zS rfl (by(refine Eq.symm ?_;(try rw[hla]at hh114);first|exact aU aA|exact aS aA|exact aQ.2 aA)) sX,rfl⟩
  have hh45:=hg45;try simp only[aL]at hh45
  iterate 6 refine AX ?_
  exact⟨rfl,zS rfl (by(refine Eq.symm ?_;(try rw[hla]at hh114);first|exact aU aA|exact aS aA|exact aQ.2 (by first|omega|simp[*]))) sX,rfl⟩
 refine .sub [(41,_),(2,_),(3,_),(4,_),(5,_)] sX ?_;refine .cx rfl (λhc41=>?_) (λhc41=>?_)
 ·iterate 9 refine AX ?_
  refine⟨?_,rfl⟩;show AV.int .i64 _=AV.int .i64 (shp l);unfold shp;try simp only[ha6,hb6]
  try simp only[ha5,hb5,hw3,hp3]
  first
  |(rw[aN hc30];done)
  |(rw[aM hc30,aN hc41];done)
  |(rw[aM hc30,aM hc41,aN hc50];done)
  |(rw[aM hc30,aM hc41,aM hc50,aN hc64];done)
  |(rw[aM hc30,aM hc41,aM hc50,aM hc64,aN hc77,aN hc126];done)
  |(rw[aM hc30,aM hc41,aM hc50,aM hc64,aN hc77,aM hc126];done)
  |(rw[aM hc30,aM hc41,aM hc50,aM hc64,aM hc77,aN hc127,aN hc176];done)
  |(rw[aM hc30,aM hc41,aM hc50,aM hc64,aM hc77,aN hc127,aM hc176,aK];done)
  |(rw[aM hc30,aM hc41,aM hc50,aM hc64,aM hc77,aN hc127,aM hc176,aJ,aN hc205];done)
  |(rw[aM hc30,aM hc41,aM hc50,aM hc64,aM hc77,aN hc127,aM hc176,aJ,aM hc205];done)
  |(rw[aM hc30,aM hc41,aM hc50,aM hc64,aM hc77,aM hc127];done)
 refine .seqTo 50 (.bool (decide (qM l 7=0∧qM l 8>0∧qM l 9=0))) [2,3,4,5] ?_ ?_
 ·iterate 5 refine AX ?_
  refine zD (t:=54) rfl (λhg54=>?_) (λhg54=>?_)
  ·have hh54:=hg54;try simp only[aL]at hh54
   iterate 5 refine AX ?_
   refine zD (t:=59) rfl (λhg59=>?_) (λhg59=>?_)
   ·have hh59:=hg59;try simp only[aL]at hh59
    iterate 6 refine AX ?_
    exact⟨rfl,zS rfl (by(refine Eq.symm ?_;(try rw[hla]at hh114);first|exact aU aA|exact aS aA|exact aQ.2 aA)) sX,rfl⟩
   have hh59:=hg59;try simp only[aL]at hh59
   iterate 6 refine AX ?_
   exact⟨rfl,zS rfl (by(refine Eq.symm ?_;(try rw[hla]at hh114);first|exact aU aA|exact aS aA|exact aQ.2 (by first|omega|simp[*]))) sX,rfl⟩
  have hh54:=hg54;try simp only[aL]at hh54
  iterate 11 refine AX ?_
  exact⟨rfl,zS rfl (by(refine Eq.symm ?_;(try rw[hla]at hh114);first|exact aU aA|exact aS aA|exact aQ.2 (by first|omega|simp[*]))) sX,rfl⟩
 refine .sub [(50,_),(2,_),(3,_),(4,_),(5,_)] sX ?_;refine .cx rfl (λhc50=>?_) (λhc50=>?_)
 ·iterate 9 refine AX ?_
  refine⟨?_,rfl⟩;show AV.int .i64 _=AV.int .i64 (shp l);unfold shp;try simp only[ha6,hb6]
  try simp only[ha5,hb5,hw3,hp3]
  first
  |(rw[aN hc30];done)
  |(rw[aM hc30,aN hc41];done)
  |(rw[aM hc30,aM hc41,aN hc50];done)
  |(rw[aM hc30,aM hc41,aM hc50,aN hc64];done)
  |(rw[aM hc30,aM hc41,aM hc50,aM hc64,aN hc77,aN hc126];done)
  |(rw[aM hc30,aM hc41,aM hc50,aM hc64,aN hc77,aM hc126];done)
  |(rw[aM hc30,aM hc41,aM hc50,aM hc64,aM hc77,aN hc127,aN hc176];done)
  |(rw[aM hc30,aM hc41,aM hc50,aM hc64,aM hc77,aN hc127,aM hc176,aK];done)
  |(rw[aM hc30,aM hc41,aM hc50,aM hc64,aM hc77,aN hc127,aM hc176,aJ,aN hc205];done)
  |(rw[aM hc30,aM hc41,aM hc50,aM hc64,aM hc77,aN hc127,aM hc176,aJ,aM hc205];done)
  |(rw[aM hc30,aM hc41,aM hc50,aM hc64,aM hc77,aM hc127];done)
 refine .seqTo 64 (.bool (decide (qM l 7=0∧qM l 8=0∧qM l 2+qM l 3+qM l 4+qM l 5+qM l 6=0))) [2,3,4] ?_ ?_
 ·iterate 5 refine AX ?_
  refine zD (t:=68) rfl (λhg68=>?_) (λhg68=>?_)
  ·have hh68:=hg68;try simp only[aL]at hh68
   iterate 5 refine AX ?_
   refine zD (t:=73) rfl (λhg73=>?_) (λhg73=>?_)
   ·have hh73:=hg73;try simp only[aL]at hh73
    iterate 5 refine AX ?_
    exact⟨rfl,zS rfl (by(refine Eq.symm ?_;(try rw[hla]at hh114);first|exact aU aA|exact aS aA|exact aQ.2 aA)) sX,rfl⟩
   have hh73:=hg73;try simp only[aL]at hh73
   iterate 5 refine AX ?_
   exact⟨rfl,zS rfl (by(refine Eq.symm ?_;(try rw[hla]at hh114);first|exact aU aA|exact aS aA|exact aQ.2 (by first|omega|simp[*]))) sX,rfl⟩
  have hh68:=hg68;try simp only[aL]at hh68
  iterate 10 refine AX ?_
  exact⟨rfl,zS rfl (by(refine Eq.symm ?_;(try rw[hla]at hh114);first|exact aU aA|exact aS aA|exact aQ.2 (by first|omega|simp[*]))) sX,rfl⟩
 refine .sub [(64,_),(2,_),(3,_),(4,_)] sX ?_;refine .cx rfl (λhc64=>?_) (λhc64=>?_)
 ·iterate 9 refine AX ?_
  refine⟨?_,rfl⟩;show AV.int .i64 _=AV.int .i64 (shp l);unfold shp;try simp only[ha6,hb6]
  try simp only[ha5,hb5,hw3,hp3]
  first
  |(rw[aN hc30];done)
  |(rw[aM hc30,aN hc41];done)
  |(rw[aM hc30,aM hc41,aN hc50];done)
  |(rw[aM hc30,aM hc41,aM hc50,aN hc64];done)
  |(rw[aM hc30,aM hc41,aM hc50,aM hc64,aN hc77,aN hc126];done)
  |(rw[aM hc30,aM hc41,aM hc50,aM hc64,aN hc77,aM hc126];done)
  |(rw[aM hc30,aM hc41,aM hc50,aM hc64,aM hc77,aN hc127,aN hc176];done)
  |(rw[aM hc30,aM hc41,aM hc50,aM hc64,aM hc77,aN hc127,aM hc176,aK];done)
  |(rw[aM hc30,aM hc41,aM hc50,aM hc64,aM hc77,aN hc127,aM hc176,aJ,aN hc205];done)
  |(rw[aM hc30,aM hc41,aM hc50,aM hc64,aM hc77,aN hc127,aM hc176,aJ,aM hc205];done)
  |(rw[aM hc30,aM hc41,aM hc50,aM hc64,aM hc77,aM hc127];done)
 refine .seqTo 77 (.bool (decide (qM l 6=1∧qM l 3+qM l 4+qM l 5=0))) [2,3,4] ?_ ?_
 ·iterate 5 refine AX ?_
  refine zD (t:=81) rfl (λhg81=>?_) (λhg81=>?_)
  ·have hh81:=hg81;try simp only[aL]at hh81
   iterate 12 refine AX ?_
   exact⟨rfl,zS rfl (by(refine Eq.symm ?_;(try rw[hla]at hh114);first|exact aU aA|exact aS aA|exact aQ.2 aA)) sX,rfl⟩
  have hh81:=hg81;try simp only[aL]at hh81
  iterate 12 refine AX ?_
  exact⟨rfl,zS rfl (by(refine Eq.symm ?_;(try rw[hla]at hh114);first|exact aU aA|exact aS aA|exact aQ.2 (by first|omega|simp[*]))) sX,rfl⟩
 refine .sub [(77,_),(2,_),(3,_),(4,_)] sX ?_;refine .cx rfl (λhc77=>?_) (λhc77=>?_)
 ·iterate 2 refine AX ?_
  refine .p rfl (zA U52 rfl Z50 (tm rfl)) ?_;refine AX ?_;refine .e rfl (yJ U30 Z3 V3 rfl zJ (.inl rfl) ⟨rfl,rfl⟩) (.cl rfl C163 (evs2 rfl rfl) (ahI l _ aA [6] _ aC _) ?_);have hqa6:=aaX l [6];have hea6:=aV (i:=zZ l [6]) (l:=l);have hfb6:=bO (i:=zZ l [6]) (l:=l);generalize ha6:l.take (zZ l [6])=a6 at *;generalize hb6:l.drop (zZ l [6])=b6 at *;iterate 10 refine AX ?_
  refine .cl rfl C84 (evs1 rfl) (adR b6 _ aA _) ?_;have hla:=@chT a6;iterate 3 refine AX ?_
  refine .seqTo 126 (.bool (decide (0<a6.length∧(a6.getD (a6.length-1) ⟨0,[]⟩).kind=2∧qM a6 2≤30∧1≤qM b6 2∧qM b6 2≤4))) [2,3,4] ?_ ?_
  ·iterate 5 refine AX ?_
   refine zD (t:=104) rfl (λhg104=>?_) (λhg104=>?_)
   ·have hh104:=hg104;try simp only[aL]at hh104
    iterate 5 refine AX ?_
    refine .gp rfl rfl rfl aB (zA U57 rfl Z3 (tm rfl)) ?_;iterate 4 refine AX ?_
    refine zD (t:=114) rfl (λhg114=>?_) (λhg114=>?_)
    ·have hh114:=hg114;try simp only[aL]at hh114
     refine AX ?_;refine .gs rfl rfl rfl aB (zB C84 (evs1 rfl) (adR _ _ aA _)) ?_;rintro _ _ ⟨rfl,hH⟩;obtain rfl:=hH.symm;iterate 3 refine AX ?_
     refine zD (t:=119) rfl (λhg119=>?_) (λhg119=>?_)
     ·have hh119:=hg119;try simp only[aL]at hh119
      iterate 4 refine AX ?_
      refine zD (t:=123) rfl (λhg123=>?_) (λhg123=>?_)
      ·have hh123:=hg123;try simp only[aL]at hh123
       iterate 4 refine AX ?_
       exact⟨rfl,zS rfl (by(refine Eq.symm ?_;(try rw[hla]at hh114);first|exact aU aA|exact aS aA|exact aQ.2 aA)) sX,rfl⟩
      have hh123:=hg123;try simp only[aL]at hh123
      iterate 4 refine AX ?_
      exact⟨rfl,zS rfl (by(refine Eq.symm ?_;(try rw[hla]at hh114);first|exact aU aA|exact aS aA|exact aQ.2 (by first|omega|simp[*]))) sX,rfl⟩
     have hh119:=hg119;try simp only[aL]at hh119
     iterate 8 refine AX ?_
     exact⟨rfl,zS rfl (by(refine Eq.symm ?_;(try rw[hla]at hh114);first|exact aU aA|exact aS aA|exact aQ.2 (by first|omega|simp[*]))) sX,rfl⟩
    have hh114:=hg114;try simp only[aL]at hh114
    iterate 13 refine AX ?_
    exact⟨rfl,zS rfl (by(refine Eq.symm ?_;(try rw[hla]at hh114);first|exact aU aA|exact aS aA|exact aQ.2 (by first|omega|simp[*]))) sX,rfl⟩
   have hh104:=hg104;try simp only[aL]at hh104
   iterate 23 refine AX ?_
   exact⟨rfl,zS rfl (by(refine Eq.symm ?_;(try rw[hla]at hh114);first|exact aU aA|exact aS aA|exact aQ.2 (by first|omega|simp[*]))) sX,rfl⟩
  refine .sub [(126,_),(2,_),(3,_),(4,_)] sX ?_;refine .cx rfl (λhc126=>?_) (λhc126=>?_)
  ·iterate 9 refine AX ?_
   refine⟨?_,rfl⟩;show AV.int .i64 _=AV.int .i64 (shp l);unfold shp;try simp only[ha6,hb6]
   try simp only[ha5,hb5,hw3,hp3]
   first
   |(rw[aN hc30];done)
   |(rw[aM hc30,aN hc41];done)
   |(rw[aM hc30,aM hc41,aN hc50];done)
   |(rw[aM hc30,aM hc41,aM hc50,aN hc64];done)
   |(rw[aM hc30,aM hc41,aM hc50,aM hc64,aN hc77,aN hc126];done)
   |(rw[aM hc30,aM hc41,aM hc50,aM hc64,aN hc77,aM hc126];done)
   |(rw[aM hc30,aM hc41,aM hc50,aM hc64,aM hc77,aN hc127,aN hc176];done)
   |(rw[aM hc30,aM hc41,aM hc50,aM hc64,aM hc77,aN hc127,aM hc176,aK];done)
   |(rw[aM hc30,aM hc41,aM hc50,aM hc64,aM hc77,aN hc127,aM hc176,aJ,aN hc205];done)
   |(rw[aM hc30,aM hc41,aM hc50,aM hc64,aM hc77,aN hc127,aM hc176,aJ,aM hc205];done)
   |(rw[aM hc30,aM hc41,aM hc50,aM hc64,aM hc77,aM hc127];done)
  iterate 10 refine AX ?_
  refine⟨?_,rfl⟩;show AV.int .i64 _=AV.int .i64 (shp l);unfold shp;try simp only[ha6,hb6]
  try simp only[ha5,hb5,hw3,hp3]
  first
  |(rw[aN hc30];done)
  |(rw[aM hc30,aN hc41];done)
  |(rw[aM hc30,aM hc41,aN hc50];done)
  |(rw[aM hc30,aM hc41,aM hc50,aN hc64];done)
  |(rw[aM hc30,aM hc41,aM hc50,aM hc64,aN hc77,aN hc126];done)
  |(rw[aM hc30,aM hc41,aM hc50,aM hc64,aN hc77,aM hc126];done)
  |(rw[aM hc30,aM hc41,aM hc50,aM hc64,aM hc77,aN hc127,aN hc176];done)
  |(rw[aM hc30,aM hc41,aM hc50,aM hc64,aM hc77,aN hc127,aM hc176,aK];done)
  |(rw[aM hc30,aM hc41,aM hc50,aM hc64,aM hc77,aN hc127,aM hc176,aJ,aN hc205];done)
  |(rw[aM hc30,aM hc41,aM hc50,aM hc64,aM hc77,aN hc127,aM hc176,aJ,aM hc205];done)
  |(rw[aM hc30,aM hc41,aM hc50,aM hc64,aM hc77,aM hc127];done)
 refine .seqTo 127 (.bool (decide (qM l 6=0∧qM l 2>0∧qM l 3≤1∧qM l 4≤1∧qM l 5≤1∧qM l 7=0))) [2,4] ?_ ?_
 ·iterate 5 refine AX ?_
  refine zD (t:=131) rfl (λhg131=>?_) (λhg131=>?_)
  ·have hh131:=hg131;try simp only[aL]at hh131
   iterate 5 refine AX ?_
   refine zD (t:=136) rfl (λhg136=>?_) (λhg136=>?_)
   ·have hh136:=hg136;try simp only[aL]at hh136
    iterate 5 refine AX ?_
    refine zD (t:=141) rfl (λhg141=>?_) (λhg141=>?_)
    ·have hh141:=hg141;try simp only[aL]at hh141
     iterate 5 refine AX ?_
     refine zD (t:=146) rfl (λhg146=>?_) (λhg146=>?_)
     ·have hh146:=hg146;try simp only[aL]at hh146
      iterate 5 refine AX ?_
      refine zD (t:=151) rfl (λhg151=>?_) (λhg151=>?_)
      ·have hh151:=hg151;try simp only[aL]at hh151
       iterate 6 refine AX ?_
       exact⟨rfl,zS rfl (by(refine Eq.symm ?_;(try rw[hla]at hh114);first|exact aU aA|exact aS aA|exact aQ.2 aA)) sX,rfl⟩
      have hh151:=hg151;try simp only[aL]at hh151
      iterate 6 refine AX ?_
      exact⟨rfl,zS rfl (by(refine Eq.symm ?_;(try rw[hla]at hh114);first|exact aU aA|exact aS aA|exact aQ.2 (by first|omega|simp[*]))) sX,rfl⟩
     have hh146:=hg146;try simp only[aL]at hh146
     iterate 11 refine AX ?_
     exact⟨rfl,zS rfl (by(refine Eq.symm ?_;(try rw[hla]at hh114);first|exact aU aA|exact aS aA|exact aQ.2 (by first|omega|simp[*]))) sX,rfl⟩
    have hh141:=hg141;try simp only[aL]at hh141
    iterate 16 refine AX ?_
    exact⟨rfl,zS rfl (by(refine Eq.symm ?_;(try rw[hla]at hh114);first|exact aU aA|exact aS aA|exact aQ.2 (by first|omega|simp[*]))) sX,rfl⟩
   have hh136:=hg136;try simp only[aL]at hh136
   iterate 21 refine AX ?_
   exact⟨rfl,zS rfl (by(refine Eq.symm ?_;(try rw[hla]at hh114);first|exact aU aA|exact aS aA|exact aQ.2 (by first|omega|simp[*]))) sX,rfl⟩
  have hh131:=hg131;try simp only[aL]at hh131
  iterate 26 refine AX ?_
  exact⟨rfl,zS rfl (by(refine Eq.symm ?_;(try rw[hla]at hh114);first|exact aU aA|exact aS aA|exact aQ.2 (by first|omega|simp[*]))) sX,rfl⟩
 refine .sub [(127,_),(2,_),(4,_)] sX ?_;refine .cx rfl (λhc127=>?_) (λhc127=>?_)
 ·iterate 2 refine AX ?_
  refine .p rfl (zA U52 rfl Z50 (tm rfl)) ?_;refine AX ?_;refine .e rfl (yJ U30 Z3 V3 rfl zJ (.inl rfl) ⟨rfl,rfl⟩) (.cl rfl C163 (evs2 rfl rfl) (ahI l _ aA [5] _ aC _) ?_);have hqa5:=aaX l [5];have hea5:=aV (i:=zZ l [5]) (l:=l);have hfb5:=bO (i:=zZ l [5]) (l:=l);generalize ha5:l.take (zZ l [5])=a5 at *;generalize hb5:l.drop (zZ l [5])=b5 at *;iterate 10 refine AX ?_
  refine .e rfl (yJ U30 Z3 V3 rfl zJ (.inl rfl) ⟨rfl,rfl⟩) (.cl rfl C163 (evs2 rfl rfl) (ahI a5 _ aA [3] _ aC _) ?_);have hqw3:=aaX a5 [3];have hew3:=aV (i:=zZ a5 [3]) (l:=a5);have hfp3:=bO (i:=zZ a5 [3]) (l:=a5);generalize hw3:a5.take (zZ a5 [3])=w3 at *;generalize hp3:a5.drop (zZ a5 [3])=p3 at *;iterate 8 refine AX ?_
  refine .seqTo 176 (.bool (decide (qM w3 2>30∨qM p3 2>30))) [4,9,10] ?_ ?_
  ·iterate 2 refine AX ?_
   refine .cl rfl C84 (evs1 rfl) (adR _ _ aA _) ?_;iterate 2 refine AX ?_
   refine zD (t:=172) rfl (λhg172=>?_) (λhg172=>?_)
   ·have hh172:=hg172;try simp only[aL]at hh172
    iterate 5 refine AX ?_
    exact⟨rfl,zS rfl (by(refine Eq.symm ?_;(try rw[hla]at hh114);first|exact aU aA|exact aS (by first|omega|simp[*])|exact aQ.2 (by first|omega|simp[*]))) sX,rfl⟩
   have hh172:=hg172;try simp only[aL]at hh172
   refine AX ?_;refine .gs rfl rfl rfl aB (zB C84 (evs1 rfl) (adR _ _ aA _)) ?_;rintro _ _ ⟨rfl,hH⟩;obtain rfl:=hH.symm;iterate 3 refine AX ?_
   exact⟨rfl,zS rfl (by(refine Eq.symm ?_;(try rw[hla]at hh114);first|exact aU aA|exact aS aA|exact aQ.2 aA)) sX,rfl⟩
  refine .sub [(176,_),(4,_),(9,_),(10,_)] sX ?_;refine .cx rfl (λhc176=>?_) (λhc176=>?_)
  ·iterate 10 refine AX ?_
   refine⟨?_,rfl⟩;show AV.int .i64 _=AV.int .i64 (shp l);unfold shp;try simp only[ha6,hb6]
   try simp only[ha5,hb5,hw3,hp3]
   first
   |(rw[aN hc30];done)
   |(rw[aM hc30,aN hc41];done)
   |(rw[aM hc30,aM hc41,aN hc50];done)
   |(rw[aM hc30,aM hc41,aM hc50,aN hc64];done)
   |(rw[aM hc30,aM hc41,aM hc50,aM hc64,aN hc77,aN hc126];done)
   |(rw[aM hc30,aM hc41,aM hc50,aM hc64,aN hc77,aM hc126];done)
   |(rw[aM hc30,aM hc41,aM hc50,aM hc64,aM hc77,aN hc127,aN hc176];done)
   |(rw[aM hc30,aM hc41,aM hc50,aM hc64,aM hc77,aN hc127,aM hc176,aK];done)
   |(rw[aM hc30,aM hc41,aM hc50,aM hc64,aM hc77,aN hc127,aM hc176,aJ,aN hc205];done)
   |(rw[aM hc30,aM hc41,aM hc50,aM hc64,aM hc77,aN hc127,aM hc176,aJ,aM hc205];done)
   |(rw[aM hc30,aM hc41,aM hc50,aM hc64,aM hc77,aM hc127];done)
  iterate 10 refine AX ?_
  refine .cx rfl (λhc179=>?_) (λhc179=>?_)
  ·iterate 10 refine AX ?_
   refine⟨?_,rfl⟩;show AV.int .i64 _=AV.int .i64 (shp l);unfold shp;try simp only[ha6,hb6]
   try simp only[ha5,hb5,hw3,hp3]
   first
   |(rw[aN hc30];done)
   |(rw[aM hc30,aN hc41];done)
   |(rw[aM hc30,aM hc41,aN hc50];done)
   |(rw[aM hc30,aM hc41,aM hc50,aN hc64];done)
   |(rw[aM hc30,aM hc41,aM hc50,aM hc64,aN hc77,aN hc126];done)
   |(rw[aM hc30,aM hc41,aM hc50,aM hc64,aN hc77,aM hc126];done)
   |(rw[aM hc30,aM hc41,aM hc50,aM hc64,aM hc77,aN hc127,aN hc176];done)
   |(rw[aM hc30,aM hc41,aM hc50,aM hc64,aM hc77,aN hc127,aM hc176,aK];done)
   |(rw[aM hc30,aM hc41,aM hc50,aM hc64,aM hc77,aN hc127,aM hc176,aJ,aN hc205];done)
   |(rw[aM hc30,aM hc41,aM hc50,aM hc64,aM hc77,aN hc127,aM hc176,aJ,aM hc205];done)
   |(rw[aM hc30,aM hc41,aM hc50,aM hc64,aM hc77,aM hc127];done)
  iterate 5 refine AX ?_
  refine .e rfl (yJ U30 Z3 V3 rfl zJ (.inl rfl) ⟨rfl,rfl⟩) (.cl rfl C163 (evs2 rfl rfl) (ahI b5 _ aA [3] _ aC _) ?_);have hqr3:=aaX b5 [3];have her3:=aV (i:=zZ b5 [3]) (l:=b5);have hfq3:=bO (i:=zZ b5 [3]) (l:=b5);generalize hr3:b5.take (zZ b5 [3])=r3 at *;generalize hq3:b5.drop (zZ b5 [3])=q3 at *;iterate 10 refine AX ?_
  refine .cl rfl C84 (evs1 rfl) (adR _ _ aA _) ?_;iterate 3 refine AX ?_
  refine .seqTo 205 (.bool (decide (zZ b5 [3]=b5.length∧qM a5 2>0∧1≤qM b5 2∧qM b5 2≤4))) [4] ?_ ?_
  ·iterate 7 refine AX ?_
   refine zD (t:=193) rfl (λhg193=>?_) (λhg193=>?_)
   ·have hh193:=hg193;try simp only[aL]at hh193
    refine AX ?_;refine .gs rfl rfl rfl aB (zB C84 (evs1 rfl) (adR _ _ aA _)) ?_;rintro _ _ ⟨rfl,hH⟩;obtain rfl:=hH.symm;iterate 3 refine AX ?_
    refine zD (t:=198) rfl (λhg198=>?_) (λhg198=>?_)
    ·have hh198:=hg198;try simp only[aL]at hh198
     iterate 4 refine AX ?_
     refine zD (t:=202) rfl (λhg202=>?_) (λhg202=>?_)
     ·have hh202:=hg202;try simp only[aL]at hh202
      iterate 4 refine AX ?_
      exact⟨rfl,zS rfl (by(refine Eq.symm ?_;(try rw[hla]at hh114);first|exact aU aA|exact aS aA|exact aQ.2 aA)) (zK rfl yF),rfl⟩
     have hh202:=hg202;try simp only[aL]at hh202
     iterate 4 refine AX ?_
     exact⟨rfl,zS rfl (by(refine Eq.symm ?_;(try rw[hla]at hh114);first|exact aU aA|exact aS aA|exact aQ.2 (by first|omega|simp[*]))) (zK rfl yF),rfl⟩
    have hh198:=hg198;try simp only[aL]at hh198
    iterate 8 refine AX ?_
    exact⟨rfl,zS rfl (by(refine Eq.symm ?_;(try rw[hla]at hh114);first|exact aU aA|exact aS aA|exact aQ.2 (by first|omega|simp[*]))) (zK rfl yF),rfl⟩
   have hh193:=hg193;try simp only[aL]at hh193
   iterate 13 refine AX ?_
   exact⟨rfl,zS rfl (by(refine Eq.symm ?_;(try rw[hla]at hh114);first|exact aU aA|exact aS aA|exact aQ.2 (by first|omega|simp[*]))) (zK rfl yF),rfl⟩
  refine .sub [(205,_),(4,_)] sX ?_;refine .cx rfl (λhc205=>?_) (λhc205=>?_)
  ·iterate 9 refine AX ?_
   refine⟨?_,rfl⟩;show AV.int .i64 _=AV.int .i64 (shp l);unfold shp;try simp only[ha6,hb6]
   try simp only[ha5,hb5,hw3,hp3]
   first
   |(rw[aN hc30];done)
   |(rw[aM hc30,aN hc41];done)
   |(rw[aM hc30,aM hc41,aN hc50];done)
   |(rw[aM hc30,aM hc41,aM hc50,aN hc64];done)
   |(rw[aM hc30,aM hc41,aM hc50,aM hc64,aN hc77,aN hc126];done)
   |(rw[aM hc30,aM hc41,aM hc50,aM hc64,aN hc77,aM hc126];done)
   |(rw[aM hc30,aM hc41,aM hc50,aM hc64,aM hc77,aN hc127,aN hc176];done)
   |(rw[aM hc30,aM hc41,aM hc50,aM hc64,aM hc77,aN hc127,aM hc176,aK];done)
   |(rw[aM hc30,aM hc41,aM hc50,aM hc64,aM hc77,aN hc127,aM hc176,aJ,aN hc205];done)
   |(rw[aM hc30,aM hc41,aM hc50,aM hc64,aM hc77,aN hc127,aM hc176,aJ,aM hc205];done)
   |(rw[aM hc30,aM hc41,aM hc50,aM hc64,aM hc77,aM hc127];done)
  iterate 10 refine AX ?_
  refine⟨?_,rfl⟩;show AV.int .i64 _=AV.int .i64 (shp l);unfold shp;try simp only[ha6,hb6]
  try simp only[ha5,hb5,hw3,hp3]
  first
  |(rw[aN hc30];done)
  |(rw[aM hc30,aN hc41];done)
  |(rw[aM hc30,aM hc41,aN hc50];done)
  |(rw[aM hc30,aM hc41,aM hc50,aN hc64];done)
  |(rw[aM hc30,aM hc41,aM hc50,aM hc64,aN hc77,aN hc126];done)
  |(rw[aM hc30,aM hc41,aM hc50,aM hc64,aN hc77,aM hc126];done)
  |(rw[aM hc30,aM hc41,aM hc50,aM hc64,aM hc77,aN hc127,aN hc176];done)
  |(rw[aM hc30,aM hc41,aM hc50,aM hc64,aM hc77,aN hc127,aM hc176,aK];done)
  |(rw[aM hc30,aM hc41,aM hc50,aM hc64,aM hc77,aN hc127,aM hc176,aJ,aN hc205];done)
  |(rw[aM hc30,aM hc41,aM hc50,aM hc64,aM hc77,aN hc127,aM hc176,aJ,aM hc205];done)
  |(rw[aM hc30,aM hc41,aM hc50,aM hc64,aM hc77,aM hc127];done)
 iterate 10 refine AX ?_
 refine⟨?_,rfl⟩;show AV.int .i64 _=AV.int .i64 (shp l);unfold shp;try simp only[ha6,hb6]
 try simp only[ha5,hb5,hw3,hp3]
 first
 |(rw[aN hc30];done)
 |(rw[aM hc30,aN hc41];done)
 |(rw[aM hc30,aM hc41,aN hc50];done)
 |(rw[aM hc30,aM hc41,aM hc50,aN hc64];done)
 |(rw[aM hc30,aM hc41,aM hc50,aM hc64,aN hc77,aN hc126];done)
 |(rw[aM hc30,aM hc41,aM hc50,aM hc64,aN hc77,aM hc126];done)
 |(rw[aM hc30,aM hc41,aM hc50,aM hc64,aM hc77,aN hc127,aN hc176];done)
 |(rw[aM hc30,aM hc41,aM hc50,aM hc64,aM hc77,aN hc127,aM hc176,aK];done)
 |(rw[aM hc30,aM hc41,aM hc50,aM hc64,aM hc77,aN hc127,aM hc176,aJ,aN hc205];done)
 |(rw[aM hc30,aM hc41,aM hc50,aM hc64,aM hc77,aN hc127,aM hc176,aJ,aM hc205];done)
 |(rw[aM hc30,aM hc41,aM hc50,aM hc64,aM hc77,aM hc127];done)
theorem alT(l:List ItN)(gr:Bool)(sc:Int)(tl:Tail)(hl:l.length≤100000):Fn 35 [.agg [itS l tl,.bool gr,.int .i64 sc]] (.int .i64 (yH ⟨l,gr,sc⟩)):=by
 intro H;refine .of_body func35 rfl ntmps35 results35 rfl ?_;iterate 9 refine AX ?_
 refine .s rfl (zB call82 (evs1 rfl) (bnQ ⟨l,gr,sc⟩ tl hl _)) ?_;rintro _ _ ⟨m,rfl,hcs,hH⟩;obtain rfl:=hH.symm;iterate 3 refine AX ?_
 refine .al zr148 (λb3 hb3=>?_);iterate 4 refine AX ?_
 refine .frz (t:=3) rfl (hb3) ?_;iterate 7 refine AX ?_
 refine .cx rfl (λhc13=>?_) (λhc13=>?_)
 ·iterate 8 refine AX ?_
  refine⟨?_,rfl⟩;unfold yH;first
  |(rw[aN (by simpa using hc13)];rfl)
  |(rw[aM (by rw[hok];simp),aN hc18,aN hc48,←hc18];rfl)
  |(rw[aM (by rw[hok];simp),aN hc18,aM hc48];rfl)
  |(rw[aM (by rw[hok];simp),aM hc18,aN hc57];rfl)
  |(rw[aM (by rw[hok];simp),aM hc18,aM hc57];rfl)
 have hok:l.all ajZ=true:=by simpa using hc13
 have hml:l=m:=(hcs hok).symm;subst hml;iterate 7 refine AX ?_
 refine .cl rfl call83 (evs2 rfl rfl) (brK l gr sc tl hl _) ?_;iterate 9 refine AX ?_
 refine .cx rfl (λhc18=>?_) (λhc18=>?_)
 ·iterate 3 refine AX ?_
  refine .cl rfl call85 (evs1 rfl) (alM ⟨l,gr,sc⟩ tl hl _) ?_;have hhd:(ahQ l).length≤100000:=by unfold ahQ;rw[aV];omega
  refine .cl rfl C84 (evs1 rfl) (adR (ahQ l) _ hhd _) ?_;iterate 4 refine AX ?_
  refine .seqTo 48 (.bool (decide (0≤sc∧sc≤9∧(0<qM (ahQ l) 2∨sc=0)∧(gr=false∨acS (ahQ l)=true)))) [1,2,5] ?_ ?_
  ·refine AX ?_;refine .p rfl (zA U52 rfl Z3 (tm rfl)) ?_;iterate 3 refine AX ?_
   refine zD (t:=26) rfl (λhg26=>?_) (λhg26=>?_)
   ·have hh26:=hg26;try simp only[aL]at hh26
    refine .gp rfl rfl rfl aB (zA U52 rfl Z3 (tm rfl)) ?_;iterate 4 refine AX ?_
    refine zD (t:=31) rfl (λhg31=>?_) (λhg31=>?_)
    ·have hh31:=hg31;try simp only[aL]at hh31
     iterate 2 refine AX ?_
     refine zD (t:=33) rfl (λhg33=>?_) (λhg33=>?_)
     ·have hh33:=hg33;try simp only[aL]at hh33
      iterate 6 refine AX ?_
      refine .gp rfl rfl rfl aD (zA U52 rfl Z4 (tm rfl)) ?_;iterate 3 refine AX ?_
      refine zD (t:=43) rfl (λhg43=>?_) (λhg43=>?_)
      ·have hh43:=hg43;try simp only[aL]at hh43
       iterate 6 refine AX ?_
       exact⟨rfl,zS rfl (by(refine Eq.symm ?_;first|exact aU ⟨by omega,by omega,by omega,.inl hh43⟩|exact aQ.2 ⟨λh=>hq2.2 (h.2.2.2.resolve_left (by rw[hh43];simp)),λh=>⟨by omega,by omega,by omega,.inr (hq2.1 h)⟩⟩|exact aS (λh=>by have h1:=h.1;have h2:=h.2.1;have h3:=h.2.2.1;omega)|exact aQ.2 ⟨λh=>h.2,λh=>⟨hh53,h⟩⟩|exact aS (λh=>by rw[hh53]at h;cases h.1))) sX,rfl⟩
      have hh43:=hg43;try simp only[aL]at hh43
      refine AX ?_;refine .gs rfl rfl rfl aB (zB call86 (evs1 rfl) (arR ⟨l,gr,sc⟩ tl hl _)) ?_;rintro _ _ ⟨q,rfl,hq,hH⟩;obtain rfl:=hH.symm;have hq:decide (0≤q)=acS (ahQ l):=hq;have hq2:0≤q↔acS (ahQ l)=true:=by rw[←hq];simp
      iterate 4 refine AX ?_
      exact⟨rfl,zS rfl (by(refine Eq.symm ?_;first|exact aU ⟨by omega,by omega,by omega,.inl hh43⟩|exact aQ.2 ⟨λh=>hq2.2 (h.2.2.2.resolve_left (by rw[hh43];simp)),λh=>⟨by omega,by omega,by omega,.inr (hq2.1 h)⟩⟩|exact aS (λh=>by have h1:=h.1;have h2:=h.2.1;have h3:=h.2.2.1;omega)|exact aQ.2 ⟨λh=>h.2,λh=>⟨hh53,h⟩⟩|exact aS (λh=>by rw[hh53]at h;cases h.1))) sX,rfl⟩
     have hh33:=hg33;try simp only[aL]at hh33
     refine .gp rfl rfl rfl aB (zA U52 rfl Z3 (tm rfl)) ?_;iterate 5 refine AX ?_
     refine zD (t:=39) rfl (λhg39=>?_) (λhg39=>?_)
     ·have hh39:=hg39;try simp only[aL]at hh39
      refine .gp rfl rfl rfl aB (zA U52 rfl Z4 (tm rfl)) ?_;iterate 3 refine AX ?_
      refine zD (t:=43) rfl (λhg43=>?_) (λhg43=>?_)
      ·have hh43:=hg43;try simp only[aL]at hh43
       iterate 6 refine AX ?_
       exact⟨rfl,zS rfl (by(refine Eq.symm ?_;first|exact aU ⟨by omega,by omega,by omega,.inl hh43⟩|exact aQ.2 ⟨λh=>hq2.2 (h.2.2.2.resolve_left (by rw[hh43];simp)),λh=>⟨by omega,by omega,by omega,.inr (hq2.1 h)⟩⟩|exact aS (λh=>by have h1:=h.1;have h2:=h.2.1;have h3:=h.2.2.1;omega)|exact aQ.2 ⟨λh=>h.2,λh=>⟨hh53,h⟩⟩|exact aS (λh=>by rw[hh53]at h;cases h.1))) sX,rfl⟩
      have hh43:=hg43;try simp only[aL]at hh43
      refine AX ?_;refine .gs rfl rfl rfl aB (zB call86 (evs1 rfl) (arR ⟨l,gr,sc⟩ tl hl _)) ?_;rintro _ _ ⟨q,rfl,hq,hH⟩;obtain rfl:=hH.symm;have hq:decide (0≤q)=acS (ahQ l):=hq;have hq2:0≤q↔acS (ahQ l)=true:=by rw[←hq];simp
      iterate 4 refine AX ?_
      exact⟨rfl,zS rfl (by(refine Eq.symm ?_;first|exact aU ⟨by omega,by omega,by omega,.inl hh43⟩|exact aQ.2 ⟨λh=>hq2.2 (h.2.2.2.resolve_left (by rw[hh43];simp)),λh=>⟨by omega,by omega,by omega,.inr (hq2.1 h)⟩⟩|exact aS (λh=>by have h1:=h.1;have h2:=h.2.1;have h3:=h.2.2.1;omega)|exact aQ.2 ⟨λh=>h.2,λh=>⟨hh53,h⟩⟩|exact aS (λh=>by rw[hh53]at h;cases h.1))) sX,rfl⟩
     have hh39:=hg39;try simp only[aL]at hh39
     iterate 10 refine AX ?_
     exact⟨rfl,zS rfl (by(refine Eq.symm ?_;first|exact aU ⟨by omega,by omega,by omega,.inl hh43⟩|exact aQ.2 ⟨λh=>hq2.2 (h.2.2.2.resolve_left (by rw[hh43];simp)),λh=>⟨by omega,by omega,by omega,.inr (hq2.1 h)⟩⟩|exact aS (λh=>by have h1:=h.1;have h2:=h.2.1;have h3:=h.2.2.1;omega)|exact aQ.2 ⟨λh=>h.2,λh=>⟨hh53,h⟩⟩|exact aS (λh=>by rw[hh53]at h;cases h.1))) sX,rfl⟩
    have hh31:=hg31;try simp only[aL]at hh31
    iterate 18 refine AX ?_
    exact⟨rfl,zS rfl (by(refine Eq.symm ?_;first|exact aU ⟨by omega,by omega,by omega,.inl hh43⟩|exact aQ.2 ⟨λh=>hq2.2 (h.2.2.2.resolve_left (by rw[hh43];simp)),λh=>⟨by omega,by omega,by omega,.inr (hq2.1 h)⟩⟩|exact aS (λh=>by have h1:=h.1;have h2:=h.2.1;have h3:=h.2.2.1;omega)|exact aQ.2 ⟨λh=>h.2,λh=>⟨hh53,h⟩⟩|exact aS (λh=>by rw[hh53]at h;cases h.1))) sX,rfl⟩
   have hh26:=hg26;try simp only[aL]at hh26
   iterate 23 refine AX ?_
   exact⟨rfl,zS rfl (by(refine Eq.symm ?_;first|exact aU ⟨by omega,by omega,by omega,.inl hh43⟩|exact aQ.2 ⟨λh=>hq2.2 (h.2.2.2.resolve_left (by rw[hh43];simp)),λh=>⟨by omega,by omega,by omega,.inr (hq2.1 h)⟩⟩|exact aS (λh=>by have h1:=h.1;have h2:=h.2.1;have h3:=h.2.2.1;omega)|exact aQ.2 ⟨λh=>h.2,λh=>⟨hh53,h⟩⟩|exact aS (λh=>by rw[hh53]at h;cases h.1))) sX,rfl⟩
  refine .sub [(48,_),(1,_),(2,_),(5,_)] sX ?_;refine .cx rfl (λhc48=>?_) (λhc48=>?_)
  ·iterate 9 refine AX ?_
   refine⟨?_,rfl⟩;unfold yH;first
   |(rw[aN (by simpa using hc13)];rfl)
   |(rw[aM (by rw[hok];simp),aN hc18,aN hc48,←hc18];rfl)
   |(rw[aM (by rw[hok];simp),aN hc18,aM hc48];rfl)
   |(rw[aM (by rw[hok];simp),aM hc18,aN hc57];rfl)
   |(rw[aM (by rw[hok];simp),aM hc18,aM hc57];rfl)
  iterate 9 refine AX ?_
  refine⟨?_,rfl⟩;unfold yH;first
  |(rw[aN (by simpa using hc13)];rfl)
  |(rw[aM (by rw[hok];simp),aN hc18,aN hc48,←hc18];rfl)
  |(rw[aM (by rw[hok];simp),aN hc18,aM hc48];rfl)
  |(rw[aM (by rw[hok];simp),aM hc18,aN hc57];rfl)
  |(rw[aM (by rw[hok];simp),aM hc18,aM hc57];rfl)
 refine .seqTo 57 (.bool (decide (gr=false∧sc=0))) [2,5] ?_ ?_
 ·refine AX ?_;refine .p rfl (zA U52 rfl Z4 (tm rfl)) ?_;iterate 3 refine AX ?_
  refine zD (t:=53) rfl (λhg53=>?_) (λhg53=>?_)
  ·have hh53:=hg53;try simp only[aL]at hh53
   refine .gp rfl rfl rfl aB (zA U52 rfl Z3 (tm rfl)) ?_;iterate 4 refine AX ?_
   exact⟨rfl,zS rfl (by(refine Eq.symm ?_;first|exact aU ⟨by omega,by omega,by omega,.inl hh43⟩|exact aQ.2 ⟨λh=>hq2.2 (h.2.2.2.resolve_left (by rw[hh43];simp)),λh=>⟨by omega,by omega,by omega,.inr (hq2.1 h)⟩⟩|exact aS (λh=>by have h1:=h.1;have h2:=h.2.1;have h3:=h.2.2.1;omega)|exact aQ.2 ⟨λh=>h.2,λh=>⟨hh53,h⟩⟩|exact aS (λh=>by rw[hh53]at h;cases h.1))) sX,rfl⟩
  have hh53:=hg53;try simp only[aL]at hh53
  iterate 5 refine AX ?_
  exact⟨rfl,zS rfl (by(refine Eq.symm ?_;first|exact aU ⟨by omega,by omega,by omega,.inl hh43⟩|exact aQ.2 ⟨λh=>hq2.2 (h.2.2.2.resolve_left (by rw[hh43];simp)),λh=>⟨by omega,by omega,by omega,.inr (hq2.1 h)⟩⟩|exact aS (λh=>by have h1:=h.1;have h2:=h.2.1;have h3:=h.2.2.1;omega)|exact aQ.2 ⟨λh=>h.2,λh=>⟨hh53,h⟩⟩|exact aS (λh=>by rw[hh53]at h;cases h.1))) sX,rfl⟩
 refine .sub [(57,_),(2,_),(5,_)] sX ?_;refine .cx rfl (λhc57=>?_) (λhc57=>?_)
 ·iterate 9 refine AX ?_
  refine⟨?_,rfl⟩;unfold yH;first
  |(rw[aN (by simpa using hc13)];rfl)
  |(rw[aM (by rw[hok];simp),aN hc18,aN hc48,←hc18];rfl)
  |(rw[aM (by rw[hok];simp),aN hc18,aM hc48];rfl)
  |(rw[aM (by rw[hok];simp),aM hc18,aN hc57];rfl)
  |(rw[aM (by rw[hok];simp),aM hc18,aM hc57];rfl)
 iterate 9 refine AX ?_
 refine⟨?_,rfl⟩;unfold yH;first
 |(rw[aN (by simpa using hc13)];rfl)
 |(rw[aM (by rw[hok];simp),aN hc18,aN hc48,←hc18];rfl)
 |(rw[aM (by rw[hok];simp),aN hc18,aM hc48];rfl)
 |(rw[aM (by rw[hok];simp),aM hc18,aN hc57];rfl)
 |(rw[aM (by rw[hok];simp),aM hc18,aM hc57];rfl)
end Go.Proofs.YteedncdcbgplfaaGreatDoor
