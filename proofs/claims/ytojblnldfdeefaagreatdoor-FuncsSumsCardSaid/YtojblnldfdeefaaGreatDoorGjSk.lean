/-
  What the call of FuncsSums comes to, worked out once; what the row says of it.
-/
import Derived.Test.YtojblnldfdeefaaGreatDoorL1
import Derived.Test.YtojblnldfdeefaaGreatDoorCards
import Derived.Test.YtojblnldfdeefaaGreatDoorTie
import Derived.SevenTiedAt
namespace Go.Proofs.YtojblnldfdeefaaGreatDoor
open Go Go.RowKit
set_option maxRecDepth 1000000
theorem Sums_clo:Tryz.prog.closure 3=[3,4,7,8,19,27,20,5,15,16,12,13,10,21,28,59,29,22,23,24,31,68,69,70,142,214,219,287,284,340,413,452,258,331,215,216,285,330,217,286,299,218,220,288,175,259,332,169,406,333,407,414,453,448,449,450,466,328,314,379,404,447,247,248,341,342,369,423,459,300,359,360,301,361,418,362,363,313,378,430,460,461,210,472,473,462,463,474,475,484,485,419,364,344,343,415,345,368,350,346,347,351,416,348,352,417,454,467,349,377,429,221,233,289,290,151,234,87,153,231,235,64,137,129,207,208,148,203,274,275,206,278,280,279,62,127,202,92,128,130,209,236,302,366,367,293,230,296,354,294,353,355,357,307,371,291,356,308,372,358,373,425,426,427,424,422,292,365,420,455,421,456,468,476,477,478,479,480,486,487,488,489,490,482,457,469,481,483,491,492,458,471,470,303,276,304,306,204,237,305,370,152,71,30,60,61,125,126,205,277,43,63,131,132,133,134,135,136,211,281,65,138,139,212,282,283,339,412,140,141,213,78,66,67,32,72,143,144,223,222,224,225,226,227,73,74,75,145,33,40,36,84,76,34,77,35,79,80,146,81,147,228,82,83,37,85,86,149,229,295,255,329,405,256,246,150,232,297,310,374,428,298,38,88,154,239,238,309,240,242,163,44,155,241,311,375,312,376,156,157,158,159,160,161,162,243,244,89,39,42,90,91,41,45,93,94,95,165,164,96,97,98,166,245,167,168,249,315,316,317,380,431,382,381,432,392,437,464,438,383,384,433,318,387,435,386,434,388,322,389,436,390,391,393,385,250,319,321,320,323,324,394,439,395,396,397,440,398,399,400,401,441,442,325,402,443,465,444,445,446,326,251,170,252,171,172,253,327,403,254,173,174,257,11,17,6,18,9,14,25,46,26,48,99,100,101,102,176,177,103,47,49,50,104,178,260,334,112,107,114,196,195,335,120,197,408,186,268,193,272,119,189,190,409,113,261,262,336,179,180,263,264,181,51,52,105,182,265,266,183,184,185,267,337,338,410,411,451,187,269,270,188,271,110,191,192,194,53,106,109,108,54,111,55,56,57,115,116,117,118,58,121,198,200,273,199,122,123,124,201]:=by kernel_rfl
theorem Sums_un:Tryz.prog.unfollowed 3=true:=by unfold Program.unfollowed;rw[Sums_clo];kernel_rfl
theorem Sums_in:(Rows.funcsSumsRow.inPlace==Tryz.prog.inPlace 3)=true:=by unfold Program.inPlace;rw[Sums_clo];kernel_rfl
theorem Sums_na:(Rows.funcsSumsRow.named==Tryz.prog.varsNamed 3)=true:=by unfold Program.varsNamed;rw[Sums_clo];kernel_rfl
theorem Sums_re:Tryz.prog.recurses 3=true:=by unfold Program.recurses;rw[Sums_un];rfl
theorem Sums_named:Tryz.prog.funcNamed Rows.funcsSumsRow.func=some 3:=by kernel_rfl
theorem Sums_nogo:Tryz.prog.goes 3=false:=by unfold Program.goes;rw[Sums_clo,Sums_un];kernel_rfl
theorem Sums_gofrom:Tryz.prog.goesFrom Rows.funcsSumsRow.func=false:=by
  unfold Program.goesFrom;rw[Sums_named,Option.any_some];exact Sums_nogo
theorem Sums_goes:false=Rows.funcsSumsRow.goesBy Tryz.prog:=by
  unfold OpenClaim.goesBy Program.goesAt;rw[Sums_gofrom]
  kernel_rfl
theorem Sums_looks:true=Tryz.prog.looks []:=by kernel_rfl
theorem Sums_main:Tryz.prog.mainIs=some (true,"9c200012d03465ca04c5d429f1d7adde44c53840c41b55793e4b2605a0e2dd46".toList):=by kernel_rfl
theorem Sums_closed:joinedFacts Tryz.prog 3 Tryz.f3 Rows.funcsSumsSpec Rows.funcsSumsRow=true:=by
  unfold joinedFacts;rw[Tryz.laidOut,Sums_in,Sums_na,Sums_un,Sums_re]
  kernel_rfl
end Go.Proofs.YtojblnldfdeefaaGreatDoor
