import Derived.Test.YteedncdcbgplfaaGreatDoorK5
import Derived.Test.YteedncdcbgplfaaGreatDoorK3
set_option maxHeartbeats 1000000
namespace Go.Proofs.YteedncdcbgplfaaGreatDoor
open Go.Proofs.Tryz
open Go Go.RowKit
section
set_option maxRecDepth 100000
def enL:Loc:=⟨[101,110],[46],[44],[44],[45],[37],[36],true,false,3⟩
theorem axI:∀l∈locs,l.second=2∨l.second=3:=by decide
theorem mEn:enL∈locs:=by simp[locs,enL]
def brF(p:List SecN):Bool:=p.all λs=>decide (s.items.length≤1000)
theorem biD{p:List SecN}(h:brF p=true):∀s,s∈p→s.items.length≤1000:=λs hs=>of_decide_eq_true (eD.1 h s hs)
def abR(s:List UInt8)(x:Nat)(w:List UInt8):Bool:=match akW s with
 |some p=>brF p&&decide (abW enL p x=(w,0))
 |none=>false
def blW(s:List UInt8)(x:List UInt8)(w:List UInt8):Bool:=match akW s with
 |some p=>brF p&&decide (bdW enL p x=(w,0))
 |none=>false
theorem byL{s:List UInt8}{x:Nat}{w:List UInt8}(h:abR s x w=true):∃p,akW s=some p∧(∀s,s∈p→s.items.length≤1000)∧abW enL p x=(w,0):=by
 unfold abR at h;split at h
 ·rename_i p e
  rw[bN,aT]at h;exact⟨p,e,biD h.1,h.2⟩
 cases h
theorem cgG{s:List UInt8}{x:List UInt8}{w:List UInt8}(h:blW s x w=true):∃p,akW s=some p∧(∀s,s∈p→s.items.length≤1000)∧bdW enL p x=(w,0):=by
 unfold blW at h;split at h
 ·rename_i p e
  rw[bN,aT]at h;exact⟨p,e,biD h.1,h.2⟩
 cases h
set_option maxRecDepth 1000000 in
theorem hd0:abR [48,46,48,48] 4607204936798154260 [49,46,48,48]=true:=by kernel_rfl
set_option maxRecDepth 1000000 in
theorem hd1:abR [48,46,48,48] 13832806255468478464 [45,49,46,53,48]=true:=by kernel_rfl
set_option maxRecDepth 1000000 in
theorem hd2:abR [48,46,48,48] 13785626545772145148 [48,46,48,48]=true:=by kernel_rfl
set_option maxRecDepth 1000000 in
theorem hd3:abR [35,44,35,35,48,46,48,35] 4653144203864309760 [49,44,50,51,52,46,53]=true:=by kernel_rfl
set_option maxRecDepth 1000000 in
theorem hd4:abR [35] 0 []=true:=by kernel_rfl
set_option maxRecDepth 1000000 in
theorem hd5:abR [48,48,48,45,48,48] 4698053236609777664 [49,50,51,52,53,45,54,55]=true:=by kernel_rfl
set_option maxRecDepth 1000000 in
theorem hd6:abR [48,37] 4593671619917905920 [49,51,37]=true:=by kernel_rfl
set_option maxRecDepth 1000000 in
theorem hd7:abR [48,44,46,48] 4668012349850910720 [49,50,46,51]=true:=by kernel_rfl
set_option maxRecDepth 1000000 in
theorem hd8:abR [35,44,35,35,48,59,40,35,44,35,35,48,41,59,34,45,34] 13876514041695830016 [40,49,44,50,51,52,41]=true:=by kernel_rfl
set_option maxRecDepth 1000000 in
theorem hd9:abR [35,44,35,35,48,59,40,35,44,35,35,48,41,59,34,45,34] 0 [45]=true:=by kernel_rfl
set_option maxRecDepth 1000000 in
theorem hd10:abR [48,46,48,48,69,43,48,48] 4668012349850910720 [49,46,50,51,69,43,48,52]=true:=by kernel_rfl
set_option maxRecDepth 1000000 in
theorem hd11:abR [48,46,48,48,69,43,48,48] 0 [48,46,48,48,69,43,48,48]=true:=by kernel_rfl
set_option maxRecDepth 1000000 in
theorem hd12:abR [35,35,48,46,48,69,43,48] 4668012349850910720 [49,50,46,51,69,43,51]=true:=by kernel_rfl
set_option maxRecDepth 1000000 in
theorem hd13:abR [35,35,48,46,48,69,43,48] 4696836717187956736 [49,46,48,69,43,54]=true:=by kernel_rfl
set_option maxRecDepth 1000000 in
theorem hd14:abR [48,69,45,48] 4602678819172646912 [53,69,45,49]=true:=by kernel_rfl
set_option maxRecDepth 1000000 in
theorem hd15:abR [35,32,63,47,63] 4614500768194494464 [51,32,49,47,52]=true:=by kernel_rfl
set_option maxRecDepth 1000000 in
theorem hd16:abR [35,32,63,47,63] 4613937818241073152 [51]=true:=by kernel_rfl
set_option maxRecDepth 1000000 in
theorem hd17:abR [35,32,63,47,63] 4602678819172646912 [32,49,47,50]=true:=by kernel_rfl
set_option maxRecDepth 1000000 in
theorem hd18:abR [63,47,63] 4614500768194494464 [49,51,47,52]=true:=by kernel_rfl
set_option maxRecDepth 1000000 in
theorem hd19:abR [35,32,63,63,47,63,63] 4598175219545276416 [32,32,49,47,52]=true:=by kernel_rfl
set_option maxRecDepth 1000000 in
theorem hd20:abR [36,71,101,110,101,114,97,108] 13840687554816376832 [45,36,53]=true:=by kernel_rfl
set_option maxRecDepth 1000000 in
theorem he0:blW [64,34,33,34] [97] [97,33]=true:=by kernel_rfl
set_option maxRecDepth 1000000 in
theorem he1:blW [48,59,48,59,48,59,34,60,34,64,34,62,34] [97] [60,97,62]=true:=by kernel_rfl
set_option maxRecDepth 1000000 in
theorem he2:blW [48] [97] [97]=true:=by kernel_rfl
theorem yW(s:List UInt8)(x:Nat)(hx:x<18446744073709551616)(w:List UInt8)(hw:abR s x w=true):Fn 27 [.str s,.int .u64 (x:Int),.str w] (.bool true):=by
 intro H;obtain⟨p,hp,hs,hn⟩:=byL hw;have kn:decide (w=w)=true:=aU rfl;refine .of_body func27 rfl ntmps27 results27 rfl ?_;iterate 7 refine AX ?_
 refine .cl rfl C20 (.cons (zO rfl) .nil) (akE (l:=enL) mEn _) ?_;iterate 3 refine AX ?_
 refine .al zr32 (λb7 hb7=>?_);iterate 4 refine AX ?_
 refine .frz (t:=7) rfl (hb7) ?_;iterate 3 refine AX ?_
 refine .cl rfl call23 (evs1 rfl) (ajG s p hp _) ?_;iterate 4 refine AX ?_
 refine .al zr24 (λb9 hb9=>?_);iterate 5 refine AX ?_
 refine .frz (t:=9) rfl (hb9) ?_;iterate 5 refine AX ?_
 refine .cl rfl call12 (evs3 rfl rfl rfl) (ajH p _ hs x hx enL (asF _ mEn) (axI _ mEn) _) ?_;rw[hn];iterate 25 refine AX ?_
 exact⟨congrArg AV.bool (aU rfl),rfl⟩
theorem anR(s:List UInt8)(x:List UInt8)(hx:x.length≤1000)(w:List UInt8)(hw:blW s x w=true):Fn 28 [.str s,.str x,.str w] (.bool true):=by
 intro H;obtain⟨p,hp,hs,hn⟩:=cgG hw;have kn:decide (w=w)=true:=aU rfl;refine .of_body func28 rfl ntmps28 results28 rfl ?_;iterate 7 refine AX ?_
 refine .cl rfl C20 (.cons (zO rfl) .nil) (akE (l:=enL) mEn _) ?_;iterate 3 refine AX ?_
 refine .al zr32 (λb7 hb7=>?_);iterate 4 refine AX ?_
 refine .frz (t:=7) rfl (hb7) ?_;iterate 3 refine AX ?_
 refine .cl rfl call23 (evs1 rfl) (ajG s p hp _) ?_;iterate 4 refine AX ?_
 refine .al zr24 (λb9 hb9=>?_);iterate 5 refine AX ?_
 refine .frz (t:=9) rfl (hb9) ?_;iterate 5 refine AX ?_
 refine .cl rfl call14 (evs3 rfl rfl rfl) (beY p _ hs x hx enL (asF _ mEn) _) ?_;rw[hn];iterate 25 refine AX ?_
 exact⟨congrArg AV.bool (aU rfl),rfl⟩
theorem awF:Fn 9 [] (.bool true):=by
 intro H;refine .of_body func9 rfl ntmps9 results9 rfl ?_;iterate 7 refine AX ?_
 refine .cl rfl C27 (.cons (zO rfl) (.cons zJ (.cons (zO rfl) .nil))) (yW _ 4607204936798154260 aC _ hd0 _) ?_;refine AX ?_;refine .gs rfl rfl rfl aD (zB C27 (.cons (zO rfl) (.cons zJ (.cons (zO rfl) .nil))) (yW _ 13832806255468478464 aC _ hd1 _)) ?_;rintro _ _ ⟨rfl,hH⟩;obtain rfl:=hH.symm;iterate 2 refine AX ?_
 refine .gs rfl rfl rfl aD (zB C27 (.cons (zO rfl) (.cons zJ (.cons (zO rfl) .nil))) (yW _ 13785626545772145148 aC _ hd2 _)) ?_;rintro _ _ ⟨rfl,hH⟩;obtain rfl:=hH.symm;iterate 2 refine AX ?_
 refine .gs rfl rfl rfl aD (zB C27 (.cons (zO rfl) (.cons zJ (.cons (zO rfl) .nil))) (yW _ 4653144203864309760 aC _ hd3 _)) ?_;rintro _ _ ⟨rfl,hH⟩;obtain rfl:=hH.symm;iterate 2 refine AX ?_
 refine .gs rfl rfl rfl aD (zB C27 (.cons (zO rfl) (.cons zJ (.cons (zO rfl) .nil))) (yW _ 0 aC _ hd4 _)) ?_;rintro _ _ ⟨rfl,hH⟩;obtain rfl:=hH.symm;iterate 2 refine AX ?_
 refine .gs rfl rfl rfl aD (zB C27 (.cons (zO rfl) (.cons zJ (.cons (zO rfl) .nil))) (yW _ 4698053236609777664 aC _ hd5 _)) ?_;rintro _ _ ⟨rfl,hH⟩;obtain rfl:=hH.symm;iterate 6 refine AX ?_
 refine .cl rfl C27 (.cons (zO rfl) (.cons zJ (.cons (zO rfl) .nil))) (yW _ 4593671619917905920 aC _ hd6 _) ?_;refine AX ?_;refine .gs rfl rfl rfl aD (zB C27 (.cons (zO rfl) (.cons zJ (.cons (zO rfl) .nil))) (yW _ 4668012349850910720 aC _ hd7 _)) ?_;rintro _ _ ⟨rfl,hH⟩;obtain rfl:=hH.symm;iterate 2 refine AX ?_
 refine .gs rfl rfl rfl aD (zB C27 (.cons (zO rfl) (.cons zJ (.cons (zO rfl) .nil))) (yW _ 13876514041695830016 aC _ hd8 _)) ?_;rintro _ _ ⟨rfl,hH⟩;obtain rfl:=hH.symm;iterate 2 refine AX ?_
 refine .gs rfl rfl rfl aD (zB C27 (.cons (zO rfl) (.cons zJ (.cons (zO rfl) .nil))) (yW _ 0 aC _ hd9 _)) ?_;rintro _ _ ⟨rfl,hH⟩;obtain rfl:=hH.symm;iterate 6 refine AX ?_
 refine .cl rfl C27 (.cons (zO rfl) (.cons zJ (.cons (zO rfl) .nil))) (yW _ 4668012349850910720 aC _ hd10 _) ?_;refine AX ?_;refine .gs rfl rfl rfl aD (zB C27 (.cons (zO rfl) (.cons zJ (.cons (zO rfl) .nil))) (yW _ 0 aC _ hd11 _)) ?_;rintro _ _ ⟨rfl,hH⟩;obtain rfl:=hH.symm;iterate 2 refine AX ?_
 refine .gs rfl rfl rfl aD (zB C27 (.cons (zO rfl) (.cons zJ (.cons (zO rfl) .nil))) (yW _ 4668012349850910720 aC _ hd12 _)) ?_;rintro _ _ ⟨rfl,hH⟩;obtain rfl:=hH.symm;iterate 2 refine AX ?_
 refine .gs rfl rfl rfl aD (zB C27 (.cons (zO rfl) (.cons zJ (.cons (zO rfl) .nil))) (yW _ 4696836717187956736 aC _ hd13 _)) ?_;rintro _ _ ⟨rfl,hH⟩;obtain rfl:=hH.symm;iterate 2 refine AX ?_
 refine .gs rfl rfl rfl aD (zB C27 (.cons (zO rfl) (.cons zJ (.cons (zO rfl) .nil))) (yW _ 4602678819172646912 aC _ hd14 _)) ?_;rintro _ _ ⟨rfl,hH⟩;obtain rfl:=hH.symm;iterate 6 refine AX ?_
 refine .cl rfl C27 (.cons (zO rfl) (.cons zJ (.cons (zO rfl) .nil))) (yW _ 4614500768194494464 aC _ hd15 _) ?_;refine AX ?_;refine .gs rfl rfl rfl aD (zB C27 (.cons (zO rfl) (.cons zJ (.cons (zO rfl) .nil))) (yW _ 4613937818241073152 aC _ hd16 _)) ?_;rintro _ _ ⟨rfl,hH⟩;obtain rfl:=hH.symm;iterate 2 refine AX ?_
 refine .gs rfl rfl rfl aD (zB C27 (.cons (zO rfl) (.cons zJ (.cons (zO rfl) .nil))) (yW _ 4602678819172646912 aC _ hd17 _)) ?_;rintro _ _ ⟨rfl,hH⟩;obtain rfl:=hH.symm;iterate 2 refine AX ?_
 refine .gs rfl rfl rfl aD (zB C27 (.cons (zO rfl) (.cons zJ (.cons (zO rfl) .nil))) (yW _ 4614500768194494464 aC _ hd18 _)) ?_;rintro _ _ ⟨rfl,hH⟩;obtain rfl:=hH.symm;iterate 2 refine AX ?_
 refine .gs rfl rfl rfl aD (zB C27 (.cons (zO rfl) (.cons zJ (.cons (zO rfl) .nil))) (yW _ 4598175219545276416 aC _ hd19 _)) ?_;rintro _ _ ⟨rfl,hH⟩;obtain rfl:=hH.symm;iterate 6 refine AX ?_
 refine .cl rfl C27 (.cons (zO rfl) (.cons zJ (.cons (zO rfl) .nil))) (yW _ 13840687554816376832 aC _ hd20 _) ?_;refine AX ?_;refine .gs rfl rfl rfl aD (zB call28 (.cons (zO rfl) (.cons (zO rfl) (.cons (zO rfl) .nil))) (anR _ _ aC _ he0 _)) ?_;rintro _ _ ⟨rfl,hH⟩;obtain rfl:=hH.symm;iterate 2 refine AX ?_
 refine .gs rfl rfl rfl aD (zB call28 (.cons (zO rfl) (.cons (zO rfl) (.cons (zO rfl) .nil))) (anR _ _ aC _ he1 _)) ?_;rintro _ _ ⟨rfl,hH⟩;obtain rfl:=hH.symm;iterate 2 refine AX ?_
 refine .gs rfl rfl rfl aD (zB call28 (.cons (zO rfl) (.cons (zO rfl) (.cons (zO rfl) .nil))) (anR _ _ aC _ he2 _)) ?_;rintro _ _ ⟨rfl,hH⟩;obtain rfl:=hH.symm;iterate 24 refine AX ?_
 exact⟨rfl,rfl⟩
end
end Go.Proofs.YteedncdcbgplfaaGreatDoor
