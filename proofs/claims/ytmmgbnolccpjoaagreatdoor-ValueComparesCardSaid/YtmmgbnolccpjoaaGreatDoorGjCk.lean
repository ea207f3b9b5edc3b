import Derived.Test.YtmmgbnolccpjoaaGreatDoorGhk
import Derived.Test.YtmmgbnolccpjoaaGreatDoorCards
import Derived.Test.YtmmgbnolccpjoaaGreatDoorTie
namespace Go.Proofs.YtmmgbnolccpjoaaGreatDoor
open Go.Proofs.Tryz
open Go Go.RowKit
set_option maxRecDepth 1000000
theorem ahR:prog.closure 4=[4,8,31,11,37,90,32,27,12,38,91,96,160,157,205,253,293,206,254,92,93,158,207,94,159,208,95,97,161,210,256,295,327,328,296,298,255,294,330,331,332,347,283,321,343,322,344,284,286,209,211,257,297,329,262,300,301,263,302,334,303,304,109,177,234,287,288,182,323,324,289,290,325,326,345,346,335,305,213,212,258,214,259,219,215,216,220,260,217,221,261,299,333,218,176,233,98,162,163,164,165,222,99,167,107,223,55,123,122,185,186,187,188,240,241,184,237,239,238,133,192,242,89,181,193,245,224,264,307,308,268,230,278,314,269,310,311,312,271,313,272,315,273,316,317,318,340,341,342,339,338,276,306,336,348,337,349,352,356,357,358,359,360,364,365,366,367,368,362,350,353,361,363,369,370,351,355,354,265,291,266,270,243,225,267,309,166,34,14,40,105,172,228,41,26,18,47,46,112,48,44,113,180,235,22,61,16,43,106,173,229,277,232,281,320,282,285,174,231,279,280,108,175,62,53,63,64,131,190,191,244,292,35,65,132,56,66,67,54,116,117,118,119,120,121,183,236,68,134,194,195,247,246,248,196,249,250,135,136,137,197,251,33,20,9,25,10,36,24,19,49,50,51,52,114,115,42,21,57,13,39,100,168,169,101,102,103,170,226,227,274,275,319,179,104,171,29,79,147,80,81,83,153,149,204,84,82,85,87,154,150,151,152,86,155,156,59,124,125,126,127,128,129,130,189,58,60,23,69,70,17,45,28,77,145,146,202,203,78,148,110,178,111,71,72,138,140,139,73,74,75,76,141,198,200,252,199,142,143,144,201]:=by kernel_rfl
theorem amX:prog.unfollowed 4=true:=by unfold Program.unfollowed;rw[ahR];kernel_rfl
theorem blL:(Rows.valueComparesRow.inPlace==prog.inPlace 4)=true:=by unfold Program.inPlace;rw[ahR];kernel_rfl
theorem blK:(Rows.valueComparesRow.named==prog.varsNamed 4)=true:=by unfold Program.varsNamed;rw[ahR];kernel_rfl
theorem blJ:prog.recurses 4=true:=by unfold Program.recurses;rw[amX];rfl
theorem ahZ:prog.funcNamed Rows.valueComparesRow.func=some 4:=by kernel_rfl
theorem bcJ:prog.goes 4=false:=by unfold Program.goes;rw[ahR,amX];kernel_rfl
theorem avY:prog.goesFrom Rows.valueComparesRow.func=false:=by
 unfold Program.goesFrom;rw[ahZ,Option.any_some];exact bcJ
theorem bcL:false=Rows.valueComparesRow.goesBy prog:=by
 unfold OpenClaim.goesBy Program.goesAt;rw[avY]
 kernel_rfl
theorem awS:true=prog.looks []:=by kernel_rfl
theorem bcK:prog.mainIs=some (true,"f704989f6919a0ea7c8883d8e1cb54e6184a9502f3eaac99d17da075bde6860b".toList):=by kernel_rfl
theorem avZ:joinedFacts prog 4 Tryz.f4 Rows.valueComparesSpec Rows.valueComparesRow=true:=by
 unfold joinedFacts;rw[Tryz.laidOut,blL,blK,amX,blJ]
 kernel_rfl
end Go.Proofs.YtmmgbnolccpjoaaGreatDoor
