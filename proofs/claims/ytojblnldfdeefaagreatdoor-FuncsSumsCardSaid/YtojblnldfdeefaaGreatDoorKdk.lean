/-
  The head of the laws of functions: chapter 18's examples hold.
-/
import Derived.Test.YtojblnldfdeefaaGreatDoorK2
import Derived.Test.YtojblnldfdeefaaGreatDoorKc0k
import Derived.Test.YtojblnldfdeefaaGreatDoorKc1k
import Derived.Test.YtojblnldfdeefaaGreatDoorKc2k
import Derived.Test.YtojblnldfdeefaaGreatDoorKc3k
import Derived.Test.YtojblnldfdeefaaGreatDoorKc4k
namespace Go.Proofs.YtojblnldfdeefaaGreatDoor.Cc
open Go Go.RowKit
theorem isH_of{l:List (Handler P ng0)}{call:CallF}{f:FuncId}{xs:List V}{H H':Heap}{r:V}(h:modH l call f xs H=some (r,H')):isH l f xs=true:=by
  unfold modH at h;unfold isH;cases hk:findH f xs l with
  |none=>rw[hk]at h;cases h
  |some k=>rfl
def mask(l:Nat)(f:Nat):Bool:=Nat.beq (Nat.land (Nat.shiftRight l f) 1) 1
noncomputable def hs1:List (Handler P ng0):=[
  Handler.pure 86 [u 13833121507442394399,.int .i64 (.ofNat 1),.int .i64 (.ofNat 2)] (.tuple [.agg [.bool true,.str [49,53],.int .i64 (.negSucc 0)],.int .i64 (.ofNat 0)]) (pure_of p0 rfl rfl),
  Handler.pure 86 [u 4612462889363109315,.int .i64 (.ofNat 2),.int .i64 (.ofNat 1)] (.tuple [.agg [.bool false,.str [50,51,53],.int .i64 (.negSucc 1)],.int .i64 (.ofNat 0)]) (pure_of p1 rfl rfl),
  Handler.pure 86 [u 13832806255468478464,.int .i64 (.ofNat 0),.int .i64 (.ofNat 1)] (.tuple [.agg [.bool true,.str [50],.int .i64 (.ofNat 0)],.int .i64 (.ofNat 0)]) (pure_of p2 rfl rfl),
  Handler.pure 86 [u 4653212373585231872,.int .i64 (.negSucc 1),.int .i64 (.ofNat 1)] (.tuple [.agg [.bool false,.str [49,51],.int .i64 (.ofNat 2)],.int .i64 (.ofNat 0)]) (pure_of p3 rfl rfl),
  Handler.pure 149 [u 4653144203864309760] (.tuple [.agg [.bool false,.str [49,50,51,52,53],.int .i64 (.negSucc 0)],.int .i64 (.ofNat 0)]) (pure_of p4 rfl rfl),
  Handler.pure 39 [.int .i64 (.ofNat 5)] (.agg [.int .i64 (.ofNat 1),u 4638144666238189568,.bool false,.str [],.int .i64 (.ofNat 0)]) (pure_of p5 rfl rfl),
  Handler.pure 367 [.int .i64 (.negSucc 1)] (.agg [u 11805916207174113034,u 4427218577690292387,.int .i64 (.negSucc 133),.bool false]) (pure_of p6 rfl rfl),
  Handler.pure 367 [.int .i64 (.negSucc 0)] (.agg [u 14757395258967641292,u 14757395258967641292,.int .i64 (.negSucc 130),.bool false]) (pure_of p7 rfl rfl),
  Handler.pure 368 [.str [50],.str [48,49,50,51,52,53,54,55,56,57]] (.str []) (pure_of p100 rfl rfl),
  Handler.pure 221 [.bool false,.str [50],.int .i64 (.ofNat 0)] (.tuple [.agg [.bool false,.str [50],.int .i64 (.ofNat 0)],.int .i64 (.ofNat 0)]) (pure_of p101 rfl rfl),
  Handler.pure 64 [.int .i64 (.ofNat 1)] (.int .u64 (.ofNat 4607182418800017408)) (pure_of p102 rfl rfl),
  Handler.pure 64 [.int .i64 (.ofNat 2)] (.int .u64 (.ofNat 4611686018427387904)) (pure_of p103 rfl rfl),
  Handler.pure 62 [.int .u64 (.ofNat 4611686018427387904),.int .u64 (.ofNat 4607182418800017408)] (.int .u64 (.ofNat 4611686018427387904)) (pure_of p104 rfl rfl),
  Handler.pure 61 [.int .u64 (.ofNat 0),.int .u64 (.ofNat 4607182418800017408)] (.int .u64 (.ofNat 4607182418800017408)) (pure_of p105 rfl rfl),
  Handler.pure 61 [.int .u64 (.ofNat 4607182418800017408),.int .u64 (.ofNat 4607182418800017408)] (.int .u64 (.ofNat 4611686018427387904)) (pure_of p106 rfl rfl),
  Handler.pure 61 [.int .u64 (.ofNat 4611686018427387904),.int .u64 (.ofNat 4611686018427387904)] (.int .u64 (.ofNat 4616189618054758400)) (pure_of p107 rfl rfl),
  Handler.pure 368 [.str [120],.str [48,49,50,51,52,53,54,55,56,57]] (.str [120]) (pure_of p108 rfl rfl),
  Handler.pure 72 [.int .u64 (.ofNat 4611686018427387904),.int .i64 (.ofNat 2)] (.tuple [.int .i64 (.ofNat 2),.int .i64 (.ofNat 0)]) (pure_of p109 rfl rfl),
  Handler.pure 303 [.agg [.int .u64 (.ofNat 11805916207174113034),.int .u64 (.ofNat 4427218577690292387)],.int .u64 (.ofNat 235)] (.agg [.int .u64 (.ofNat 150),.int .u64 (.ofNat 7378697629483820646),.int .u64 (.ofNat 7378697629483820449)]) (pure_of p110 rfl rfl),
  Handler.pure 304 [.agg [.int .u64 (.ofNat 150),.int .u64 (.ofNat 7378697629483820646),.int .u64 (.ofNat 7378697629483820449)],.int .i64 (.negSucc 133)] (.int .u64 (.ofNat 4612474148362177741)) (pure_of p111 rfl rfl),
  Handler.pure 304 [.agg [.int .u64 (.ofNat 150),.int .u64 (.ofNat 7378697629483820646),.int .u64 (.ofNat 7378697629483820684)],.int .i64 (.negSucc 133)] (.int .u64 (.ofNat 4612474148362177741)) (pure_of p112 rfl rfl),
  Handler.pure 72 [.int .u64 (.ofNat 0),.int .i64 (.ofNat 2)] (.tuple [.int .i64 (.ofNat 0),.int .i64 (.ofNat 0)]) (pure_of p113 rfl rfl),
  Handler.pure 72 [.int .u64 (.ofNat 13835058055282163712),.int .i64 (.ofNat 2)] (.tuple [.int .i64 (.negSucc 1),.int .i64 (.ofNat 0)]) (pure_of p114 rfl rfl),
  Handler.pure 64 [.int .i64 (.ofNat 10)] (.int .u64 (.ofNat 4621819117588971520)) (pure_of p115 rfl rfl),
  Handler.pure 62 [.int .u64 (.ofNat 4607182418800017408),.int .u64 (.ofNat 4621819117588971520)] (.int .u64 (.ofNat 4621819117588971520)) (pure_of p116 rfl rfl),
  Handler.pure 62 [.int .u64 (.ofNat 4621819117588971520),.int .u64 (.ofNat 4621819117588971520)] (.int .u64 (.ofNat 4636737291354636288)) (pure_of p117 rfl rfl),
  Handler.pure 64 [.int .i64 (.ofNat 13)] (.int .u64 (.ofNat 4623507967449235456)) (pure_of p118 rfl rfl),
  Handler.pure 62 [.int .u64 (.ofNat 4623507967449235456),.int .u64 (.ofNat 4636737291354636288)] (.int .u64 (.ofNat 4653432275910787072)) (pure_of p119 rfl rfl),
  Handler.pure 35 [.str [73,78,84],.int .u64 (.ofNat 13832806255468478464)] (.agg [.int .i64 (.ofNat 1),.int .u64 (.ofNat 13835058055282163712),.bool false,.str [],.int .i64 (.ofNat 0)]) (pure_of p120 rfl rfl),
  Handler.pure 89 [.int .u64 (.ofNat 13842939354630062080),.int .u64 (.ofNat 4613937818241073152)] (.int .u64 (.ofNat 13830554455654793216)) (pure_of p121 rfl rfl),
  Handler.pure 61 [.int .u64 (.ofNat 13830554455654793216),.int .u64 (.ofNat 4613937818241073152)] (.int .u64 (.ofNat 4611686018427387904)) (pure_of p122 rfl rfl),
  Handler.pure 72 [.int .u64 (.ofNat 4607182418800017408),.int .i64 (.ofNat 2)] (.tuple [.int .i64 (.ofNat 1),.int .i64 (.ofNat 0)]) (pure_of p123 rfl rfl),
  Handler.pure 303 [.agg [.int .u64 (.ofNat 14757395258967641292),.int .u64 (.ofNat 14757395258967641292)],.int .u64 (.ofNat 15)] (.agg [.int .u64 (.ofNat 11),.int .u64 (.ofNat 18446744073709551615),.int .u64 (.ofNat 18446744073709551604)]) (pure_of p124 rfl rfl),
  Handler.pure 304 [.agg [.int .u64 (.ofNat 11),.int .u64 (.ofNat 18446744073709551615),.int .u64 (.ofNat 18446744073709551604)],.int .i64 (.negSucc 130)] (.int .u64 (.ofNat 4609434218613702656)) (pure_of p125 rfl rfl),
  Handler.pure 304 [.agg [.int .u64 (.ofNat 12),.int .u64 (.ofNat 0),.int .u64 (.ofNat 3)],.int .i64 (.negSucc 130)] (.int .u64 (.ofNat 4609434218613702656)) (pure_of p126 rfl rfl),
  Handler.pure 72 [.int .u64 (.ofNat 4616189618054758400),.int .i64 (.ofNat 2)] (.tuple [.int .i64 (.ofNat 4),.int .i64 (.ofNat 0)]) (pure_of p127 rfl rfl),
  Handler.pure 72 [.int .u64 (.ofNat 4621256167635550208),.int .i64 (.ofNat 2)] (.tuple [.int .i64 (.ofNat 9),.int .i64 (.ofNat 0)]) (pure_of p128 rfl rfl),
  Handler.pure 72 [.int .u64 (.ofNat 4613937818241073152),.int .i64 (.ofNat 2)] (.tuple [.int .i64 (.ofNat 3),.int .i64 (.ofNat 0)]) (pure_of p129 rfl rfl),
  Handler.pure 174 [.str [98],.str [97,98,99,98],.int .i64 (.ofNat 3)] (.agg [.int .i64 (.ofNat 1),.int .u64 (.ofNat 4616189618054758400),.bool false,.str [],.int .i64 (.ofNat 0)]) (pure_of p130 rfl rfl),
  Handler.pure 398 [.agg [.bool false,.str [49,50,51,52,53],.int .i64 (.negSucc 0)],.int .i64 (.ofNat 2)] (.agg [.bool false,.str [49,50,51,52,53],.int .i64 (.negSucc 0)]) (pure_of p131 rfl rfl),
  Handler.pure 399 [.agg [.bool false,.str [49,50,51,52,53],.int .i64 (.negSucc 0)],.int .i64 (.ofNat 2)] (.tuple [.str [49,50,51,52],.str [53,48]]) (pure_of p132 rfl rfl),
  Handler.pure 61 [.int .u64 (.ofNat 4611686018427387904),.int .u64 (.ofNat 4613937818241073152)] (.int .u64 (.ofNat 4617315517961601024)) (pure_of p133 rfl rfl),
  Handler.pure 63 [.int .u64 (.ofNat 4617315517961601024),.int .u64 (.ofNat 4611686018427387904)] (.int .u64 (.ofNat 4612811918334230528)) (pure_of p134 rfl rfl),
  Handler.pure 72 [.int .u64 (.ofNat 4617315517961601024),.int .i64 (.ofNat 2)] (.tuple [.int .i64 (.ofNat 5),.int .i64 (.ofNat 0)]) (pure_of p135 rfl rfl),
  Handler.pure 72 [.int .u64 (.ofNat 4622945017495814144),.int .i64 (.ofNat 2)] (.tuple [.int .i64 (.ofNat 12),.int .i64 (.ofNat 0)]) (pure_of p136 rfl rfl),
  Handler.pure 72 [.int .u64 (.ofNat 4625759767262920704),.int .i64 (.ofNat 2)] (.tuple [.int .i64 (.ofNat 18),.int .i64 (.ofNat 0)]) (pure_of p137 rfl rfl),
  Handler.pure 74 [.int .i64 (.ofNat 6)] (.agg [.int .i64 (.ofNat 1),.int .u64 (.ofNat 4618441417868443648),.bool false,.str [],.int .i64 (.ofNat 0)]) (pure_of p138 rfl rfl),
  hColl,hBS,hLess]++hs0
noncomputable def isM1:FuncId→List V→Bool:=λf xs=>cond (mask 21660179266680060646837982591667550345742738685232940102923921058915940672050932118722205116218314761373041111469229422615502606903195672611127296 f) (isH hs1 f xs) false
/-! stages -/
noncomputable abbrev call1:CallF:=evF P (mkTy P) ng0 idl0 isM1 (modH hs1) 399
theorem call1_ok:CallOK P ng0 call1:=evF_sound mixed noNG idl0_ok (λcall hc hx f xs H r H' _ e=>modH_ok hs1 call hc hx f xs H r H' (isH_of e) e) (λcall hx f xs H r H' X H2 _ e k=>modH_ext hs1 call hx f xs H r H' X H2 (isH_of e) e k) 399
theorem call1_ext:CallExt call1:=evF_ext (λcall hx f xs H r H' X H2 _ e k=>modH_ext hs1 call hx f xs H r H' X H2 (isH_of e) e k) 399
noncomputable def bodyC:Code:=match P.funcs[4]? with
  |some f=>f.body.getD .skip
  |none=>.skip
noncomputable def rest:Nat→Code
  |0=>bodyC
  |k+1=>seqR (rest k)
def rz:List V:=(List.replicate 801 [V.int .u32 (.ofNat 0),.int .i32 (.ofNat 0),.int .u32 (.ofNat 0),.int .u64 (.ofNat 0),.int .u64 (.ofNat 0),.int .i64 (.ofNat 0),.bool false]).flatten
def j0:O:=.cells 3 ([.int .i64 (.ofNat 3)]) true false
def j1:O:=.cells 32 ([.str [101,110],.str [46],.str [44],.str [44],.str [45],.str [37],.str [36],.bool true,.bool false,.sl 1 35 0 1]) true false
def j2:O:=.cells 61 ([.str [101,110],.str [46],.str [44],.str [44],.str [45],.str [37],.str [36],.bool true,.bool false,.sl 1 35 0 1,.ptr 53 0,.ptr 62 0]) true false
def j3:O:=.cells 77 ([.str [101,110],.str [46],.str [44],.str [44],.str [45],.str [37],.str [36],.bool true,.bool false,.sl 1 35 0 1,.ptr 59 0]) true false
def j4:O:=.cells 118 ([.str [101,110],.str [46],.str [44],.str [44],.str [45],.str [37],.str [36],.bool true,.bool false,.sl 1 35 0 1,.ptr 61 0]) true false
def j5:O:=.cells 98 (rz) true false
def j6:O:=.cells 98 (putRow (putRow (rz) 2786 [.int .u32 (.ofNat 1)]) 2789 [.int .u64 (.ofNat 11805916207174113034),.int .u64 (.ofNat 4427218577690292387),.int .i64 (.negSucc 133)]) true false
def j7:O:=.cells 98 (putRow (putRow (putRow (putRow (rz) 2786 [.int .u32 (.ofNat 1)]) 2789 [.int .u64 (.ofNat 11805916207174113034),.int .u64 (.ofNat 4427218577690292387),.int .i64 (.negSucc 133)]) 2793 [.int .u32 (.ofNat 1)]) 2796 [.int .u64 (.ofNat 14757395258967641292),.int .u64 (.ofNat 14757395258967641292),.int .i64 (.negSucc 130)]) true false
def ks0:List (Nat×O):=[]
def es0:List (Nat×V):=[]
def ks1:List (Nat×O):=[]
def es1:List (Nat×V):=[(0,.bool false)]
def ks2:List (Nat×O):=[(35,j0),(39,j1)]
def es2:List (Nat×V):=[(0,.bool false),(1,.ptr 39 0)]
def ks3:List (Nat×O):=[(35,j0),(39,j1),(46,j2),(53,j3),(59,j4),(61,j5),(62,j5)]
def es3:List (Nat×V):=[(0,.bool false),(1,.ptr 39 0),(3,.ptr 46 0)]
def ks4:List (Nat×O):=[(35,j0),(39,j1),(46,j2),(53,j3),(59,j4),(61,j5),(62,j5)]
def es4:List (Nat×V):=[(0,.bool false),(1,.ptr 39 0),(3,.ptr 46 0)]
def ks5:List (Nat×O):=[(35,j0),(39,j1),(46,j2),(53,j3),(59,j4),(61,j5),(62,j5)]
def es5:List (Nat×V):=[(0,.bool false),(1,.ptr 39 0),(3,.ptr 46 0),(4,.bool true)]
def ks6:List (Nat×O):=[(35,j0),(39,j1),(46,j2),(53,j3),(59,j4),(61,j5),(62,j6)]
def es6:List (Nat×V):=[(0,.bool false),(1,.ptr 39 0),(3,.ptr 46 0),(4,.bool true),(5,.bool true)]
def ks7:List (Nat×O):=[(35,j0),(39,j1),(46,j2),(53,j3),(59,j4),(61,j5),(62,j7)]
def es7:List (Nat×V):=[(0,.bool false),(1,.ptr 39 0),(3,.ptr 46 0),(4,.bool true),(5,.bool true),(6,.bool true)]
def ks8:List (Nat×O):=[(35,j0),(39,j1),(46,j2),(53,j3),(59,j4),(61,j5),(62,j7)]
def es8:List (Nat×V):=[(0,.bool false),(1,.ptr 39 0),(3,.ptr 46 0),(4,.bool true),(5,.bool true),(6,.bool true),(7,.bool true)]
def ks9:List (Nat×O):=[(35,j0),(39,j1),(46,j2),(53,j3),(59,j4),(61,j5),(62,j7)]
def es9:List (Nat×V):=[(0,.bool false),(1,.ptr 39 0),(3,.ptr 46 0),(4,.bool true),(5,.bool true),(6,.bool true),(7,.bool true),(8,.bool true)]
def ks10:List (Nat×O):=[(35,j0),(39,j1),(46,j2),(53,j3),(59,j4),(61,j5),(62,j7)]
def es10:List (Nat×V):=[(0,.bool false),(1,.ptr 39 0),(3,.ptr 46 0),(4,.bool true),(5,.bool true),(6,.bool true),(7,.bool true),(8,.bool true),(9,.bool true)]
end Go.Proofs.YtojblnldfdeefaaGreatDoor.Cc
