import Derived.Test.YteedncdcbgplfaaGreatDoorH1
import Derived.Test.YteedncdcbgplfaaGreatDoorCards
import Derived.Test.YteedncdcbgplfaaGreatDoorTie
namespace Go.Proofs.YteedncdcbgplfaaGreatDoor
open Go.Proofs.Tryz
open Go Go.RowKit
set_option maxRecDepth 1000000
theorem alF:prog.closure 6=[6,9,27,20,23,59,60,61,135,212,258,136,213,138,215,259,137,214,85,163,236,174,243,172,139,140,216,182,220,62,143,218,142,217,144,35,82,162,83,84,86,141,12,30,31,33,32,34,37,87,38,91,93,171,240,92,168,193,241,194,281,242,169,170,106,195,109,201,90,167,239,277,278,306,305,307,279,280,308,309,327,328,103,181,249,250,183,251,284,252,285,184,185,186,71,150,108,197,198,199,254,200,255,286,310,311,312,151,227,228,229,260,287,152,230,221,164,237,275,304,326,334,276,88,89,165,166,238,36,39,94,173,95,96,97,175,98,176,99,100,101,177,178,40,102,179,244,263,291,292,180,245,282,246,247,283,248,104,187,189,253,188,190,191,107,196,105,192,41,28,14,10,17,11,29,19,18,56,16,52,129,53,54,130,55,118,131]:=by kernel_rfl
theorem avU:prog.unfollowed 6=true:=by unfold Program.unfollowed;rw[alF];kernel_rfl
theorem bsJ:(Rows.renderPartsRow.inPlace==prog.inPlace 6)=true:=by unfold Program.inPlace;rw[alF];kernel_rfl
theorem bsI:(Rows.renderPartsRow.named==prog.varsNamed 6)=true:=by unfold Program.varsNamed;rw[alF];kernel_rfl
theorem bsG:prog.recurses 6=true:=by unfold Program.recurses;rw[avU];rfl
theorem ajU:prog.funcNamed Rows.renderPartsRow.func=some 6:=by kernel_rfl
theorem biI:prog.goes 6=false:=by unfold Program.goes;rw[alF,avU];kernel_rfl
theorem azB:prog.goesFrom Rows.renderPartsRow.func=false:=by
 unfold Program.goesFrom;rw[ajU,Option.any_some];exact biI
theorem biL:false=Rows.renderPartsRow.goesBy prog:=by
 unfold OpenClaim.goesBy Program.goesAt;rw[azB]
 kernel_rfl
theorem bbY:true=prog.looks []:=by kernel_rfl
theorem biJ:prog.mainIs=some (true,"2746d48b2fe447adbdb2c015641de02e31eb2287da6537fa34eeb98064423fc9".toList):=by kernel_rfl
theorem azC:joinedFacts prog 6 Tryz.f6 Rows.renderPartsSpec Rows.renderPartsRow=true:=by
 unfold joinedFacts;rw[Tryz.laidOut,bsJ,bsI,avU,bsG]
 kernel_rfl
end Go.Proofs.YteedncdcbgplfaaGreatDoor
