/-
  Contracts of the library, laid at this seat.
-/
import Derived.Test.YtojblnldfdeefaaGreatDoorE6
import Derived.Test.YtojblnldfdeefaaGreatDoorA1
import Derived.Shelf.Strings.Builder1
import Derived.Shelf.Strings.Builder2
import Derived.Shelf.Small.Bits
import Derived.Shelf.Small.Strs
import Derived.Shelf.Small.Wraps
import Derived.Shelf.Strings.BuilderF
import Derived.Shelf.Strings.BuilderK
import Derived.Shelf.Strings.Builder2Cap
import Derived.Shelf.LaysM
import Derived.Shelf.Strings.Search1
import Derived.Shelf.Strings.Search2
import Derived.Shelf.Strings.Search3
import Derived.Shelf.Strings.Cut
import Derived.Shelf.Strings.Count
import Derived.Shelf.Strings.Shaped
import Derived.Shelf.Strings.Split
import Derived.Shelf.Strings.Replace
import Derived.Shelf.Strings.Runes
import Derived.Shelf.Strings.RuneCount
import Derived.Shelf.Strings.Explode
import Derived.Shelf.Bits.Mul64
import Derived.Shelf.Strings.Repeat
import Derived.Shelf.Strings.BuilderCap
import Derived.Test.YtojblnldfdeefaaGreatDoorProg
import Derived.KernelRfl
import Derived.Recover
namespace Go.Proofs
open Go.Shelf
open Go.RowKit Go.Lib in
open Go.RowKit in
open Go.RowKit Go.Lib in
open Go.RowKit Go.Lib in
open Go.RowKit Go.Lib in
open Go.RowKit Go.Lib in
open Go.RowKit Go.Lib in
def Tryz.lays155_ren:Go.Shelf.Ren:=⟨fun|155=>175|154=>259|138=>332|165=>328|143=>333|166=>247|197=>258|169=>248|195=>169|218=>406|240=>314|241=>404|219=>407|260=>331|276=>379|277=>447|217=>414|225=>448|224=>449|267=>450|266=>453|314=>466|n=>n,fun|9=>9|3=>3|4=>4|72=>263|0=>0|76=>265|105=>281|21=>21|5=>5|70=>261|20=>20|37=>208|75=>255|127=>322|164=>370|46=>73|119=>406|139=>409|138=>408|146=>404|51=>81|80=>267|n=>n,fun|1=>9|3=>5|4=>6|n=>n⟩
theorem Tryz.lays155:Go.Proofs.Lays.n155 Tryz.prog Tryz.lays155_ren:={
  mixed:=by kernel_rfl
  f138:=Tryz.func332.trans (congrArg some (by kernel_rfl))
  f143:=Tryz.func333.trans (congrArg some (by kernel_rfl))
  f154:=Tryz.func259.trans (congrArg some (by kernel_rfl))
  f155:=Tryz.func175.trans (congrArg some (by kernel_rfl))
  f165:=Tryz.func328.trans (congrArg some (by kernel_rfl))
  f166:=Tryz.func247.trans (congrArg some (by kernel_rfl))
  f169:=Tryz.func248.trans (congrArg some (by kernel_rfl))
  f195:=Tryz.func169.trans (congrArg some (by kernel_rfl))
  f197:=Tryz.func258.trans (congrArg some (by kernel_rfl))
  f217:=Tryz.func414.trans (congrArg some (by kernel_rfl))
  f218:=Tryz.func406.trans (congrArg some (by kernel_rfl))
  f219:=Tryz.func407.trans (congrArg some (by kernel_rfl))
  f224:=Tryz.func449.trans (congrArg some (by kernel_rfl))
  f225:=Tryz.func448.trans (congrArg some (by kernel_rfl))
  f240:=Tryz.func314.trans (congrArg some (by kernel_rfl))
  f241:=Tryz.func404.trans (congrArg some (by kernel_rfl))
  f260:=Tryz.func331.trans (congrArg some (by kernel_rfl))
  f266:=Tryz.func453.trans (congrArg some (by kernel_rfl))
  f267:=Tryz.func450.trans (congrArg some (by kernel_rfl))
  f276:=Tryz.func379.trans (congrArg some (by kernel_rfl))
  f277:=Tryz.func447.trans (congrArg some (by kernel_rfl))
  f314:=Tryz.func466.trans (congrArg some (by kernel_rfl))
  t0:=Tryz.underlying0
  a0:=Tryz.isAgg0
  z0:=Tryz.sizeOf0
  v0:=Tryz.zeroValue0
  t3:=Tryz.underlying3
  a3:=Tryz.isAgg3
  z3:=Tryz.sizeOf3
  v3:=Tryz.zeroValue3
  t4:=Tryz.underlying4
  a4:=Tryz.isAgg4
  z4:=Tryz.sizeOf4
  v4:=Tryz.zeroValue4
  t5:=Tryz.underlying5
  a5:=Tryz.isAgg5
  z5:=Tryz.sizeOf5
  v5:=Tryz.zeroValue5
  t9:=Tryz.underlying9
  a9:=Tryz.isAgg9
  z9:=Tryz.sizeOf9
  v9:=Tryz.zeroValue9
  t20:=Tryz.underlying20
  a20:=Tryz.isAgg20
  z20:=Tryz.sizeOf20
  v20:=Tryz.zeroValue20
  t21:=Tryz.underlying21
  a21:=Tryz.isAgg21
  z21:=Tryz.sizeOf21
  v21:=Tryz.zeroValue21
  t37:=Tryz.underlying208
  a37:=Tryz.isAgg208
  z37:=Tryz.sizeOf208
  v37:=Tryz.zeroValue208
  t46:=Tryz.underlying73
  a46:=Tryz.isAgg73
  z46:=Tryz.sizeOf73
  v46:=Tryz.zeroValue73
  t51:=Tryz.underlying81
  a51:=Tryz.isAgg81
  z51:=Tryz.sizeOf81
  v51:=Tryz.zeroValue81
  t70:=Tryz.underlying261
  a70:=Tryz.isAgg261
  z70:=Tryz.sizeOf261
  v70:=Tryz.zeroValue261
  t72:=Tryz.underlying263
  a72:=Tryz.isAgg263
  z72:=Tryz.sizeOf263
  v72:=Tryz.zeroValue263
  t75:=Tryz.underlying255
  a75:=Tryz.isAgg255
  z75:=Tryz.sizeOf255
  v75:=Tryz.zeroValue255
  t76:=Tryz.underlying265
  a76:=Tryz.isAgg265
  z76:=Tryz.sizeOf265
  v76:=Tryz.zeroValue265
  t105:=Tryz.underlying281
  a105:=Tryz.isAgg281
  z105:=Tryz.sizeOf281
  v105:=Tryz.zeroValue281
  t119:=Tryz.underlying406
  a119:=Tryz.isAgg406
  z119:=Tryz.sizeOf406
  t127:=Tryz.underlying322
  a127:=Tryz.isAgg322
  z127:=Tryz.sizeOf322
  v127:=Tryz.zeroValue322
  t138:=Tryz.underlying408
  a138:=Tryz.isAgg408
  z138:=Tryz.sizeOf408
  v138:=Tryz.zeroValue408
  t139:=Tryz.underlying409
  a139:=Tryz.isAgg409
  z139:=Tryz.sizeOf409
  v139:=Tryz.zeroValue409
  t146:=Tryz.underlying404
  a146:=Tryz.isAgg404
  z146:=Tryz.sizeOf404
  v146:=Tryz.zeroValue404
  t164:=Tryz.underlying370
  a164:=Tryz.isAgg370
  z164:=Tryz.sizeOf370
  v164:=Tryz.zeroValue370
  g1:=by kernel_rfl
  g3:=by kernel_rfl
  g4:=by kernel_rfl}
theorem Tryz.Builder_Extra_155:Builder.Extra Tryz.prog Tryz.lays155_ren:={
  sizeBuilder:=by kernel_rfl
  liesBuilder:=by kernel_rfl
  t5:=Tryz.underlying5
  a5:=Tryz.isAgg5
  z5:=Tryz.sizeOf5
  v5:=Tryz.zeroValue5
  infoByte:=by kernel_rfl
  cellsByte:=by kernel_rfl
  sizeByte:=by kernel_rfl
  neB5:=by decide}
open Go.RowKit Go.Lib in
theorem Tryz.strings_ReplaceAll(s old new:ByteArray)(m:Int)(w:World)(hs:s.size<4294967281)(hm:w.cell? ⟨9,0,none⟩=some (.int .i64 m))(h1:1≤old.size)(hlen:s.size+Lib.countB s old*new.size≤140737488355328):
    Calls Tryz.prog 175 #[.string s,.string old,.string new] w λe w'=>
      e= .returned (.string ⟨(Lib.replaceAll s.data.toList old.data.toList new.data.toList).toArray⟩)∧Below w.heap.size w w':=Any.strings_ReplaceAll Tryz.lays155 Tryz.Builder_Extra_155 s old new m w hs hm h1 hlen
def Tryz.lays105_ren:Go.Shelf.Ren:=⟨fun|105=>255|212=>329|99=>256|165=>328|166=>247|170=>246|169=>248|263=>405|264=>209|206=>330|240=>314|241=>404|276=>379|277=>447|n=>n,fun|9=>9|3=>3|4=>4|20=>20|0=>0|46=>73|109=>342|5=>5|72=>263|76=>265|51=>81|146=>404|53=>25|148=>235|70=>261|37=>208|75=>255|127=>322|164=>370|80=>267|n=>n,fun|n=>n⟩
theorem Tryz.lays105:Go.Proofs.Lays.n105 Tryz.prog Tryz.lays105_ren:={
  mixed:=by kernel_rfl
  f99:=Tryz.func256.trans (congrArg some (by kernel_rfl))
  f105:=Tryz.func255.trans (congrArg some (by kernel_rfl))
  f165:=Tryz.func328.trans (congrArg some (by kernel_rfl))
  f166:=Tryz.func247.trans (congrArg some (by kernel_rfl))
  f169:=Tryz.func248.trans (congrArg some (by kernel_rfl))
  f170:=Tryz.func246.trans (congrArg some (by kernel_rfl))
  f206:=Tryz.func330.trans (congrArg some (by kernel_rfl))
  f212:=Tryz.func329.trans (congrArg some (by kernel_rfl))
  f240:=Tryz.func314.trans (congrArg some (by kernel_rfl))
  f241:=Tryz.func404.trans (congrArg some (by kernel_rfl))
  f263:=Tryz.func405.trans (congrArg some (by kernel_rfl))
  f264:=Tryz.func209.trans (congrArg some (by kernel_rfl))
  f276:=Tryz.func379.trans (congrArg some (by kernel_rfl))
  f277:=Tryz.func447.trans (congrArg some (by kernel_rfl))
  t0:=Tryz.underlying0
  a0:=Tryz.isAgg0
  z0:=Tryz.sizeOf0
  v0:=Tryz.zeroValue0
  t3:=Tryz.underlying3
  a3:=Tryz.isAgg3
  z3:=Tryz.sizeOf3
  v3:=Tryz.zeroValue3
  t4:=Tryz.underlying4
  a4:=Tryz.isAgg4
  z4:=Tryz.sizeOf4
  v4:=Tryz.zeroValue4
  t5:=Tryz.underlying5
  a5:=Tryz.isAgg5
  z5:=Tryz.sizeOf5
  v5:=Tryz.zeroValue5
  t9:=Tryz.underlying9
  a9:=Tryz.isAgg9
  z9:=Tryz.sizeOf9
  v9:=Tryz.zeroValue9
  t20:=Tryz.underlying20
  a20:=Tryz.isAgg20
  z20:=Tryz.sizeOf20
  v20:=Tryz.zeroValue20
  t37:=Tryz.underlying208
  a37:=Tryz.isAgg208
  z37:=Tryz.sizeOf208
  v37:=Tryz.zeroValue208
  t46:=Tryz.underlying73
  a46:=Tryz.isAgg73
  z46:=Tryz.sizeOf73
  v46:=Tryz.zeroValue73
  t51:=Tryz.underlying81
  a51:=Tryz.isAgg81
  z51:=Tryz.sizeOf81
  v51:=Tryz.zeroValue81
  t53:=Tryz.underlying25
  a53:=Tryz.isAgg25
  z53:=Tryz.sizeOf25
  v53:=Tryz.zeroValue25
  t70:=Tryz.underlying261
  a70:=Tryz.isAgg261
  z70:=Tryz.sizeOf261
  v70:=Tryz.zeroValue261
  t72:=Tryz.underlying263
  a72:=Tryz.isAgg263
  z72:=Tryz.sizeOf263
  v72:=Tryz.zeroValue263
  t75:=Tryz.underlying255
  a75:=Tryz.isAgg255
  z75:=Tryz.sizeOf255
  v75:=Tryz.zeroValue255
  t76:=Tryz.underlying265
  a76:=Tryz.isAgg265
  z76:=Tryz.sizeOf265
  v76:=Tryz.zeroValue265
  t109:=Tryz.underlying342
  a109:=Tryz.isAgg342
  z109:=Tryz.sizeOf342
  v109:=Tryz.zeroValue342
  t127:=Tryz.underlying322
  a127:=Tryz.isAgg322
  z127:=Tryz.sizeOf322
  v127:=Tryz.zeroValue322
  t146:=Tryz.underlying404
  a146:=Tryz.isAgg404
  z146:=Tryz.sizeOf404
  v146:=Tryz.zeroValue404
  t148:=Tryz.underlying235
  a148:=Tryz.isAgg235
  z148:=Tryz.sizeOf235
  v148:=Tryz.zeroValue235
  t164:=Tryz.underlying370
  a164:=Tryz.isAgg370
  z164:=Tryz.sizeOf370
  v164:=Tryz.zeroValue370}
theorem Tryz.Builder_Extra_105:Builder.Extra Tryz.prog Tryz.lays105_ren:={
  sizeBuilder:=by kernel_rfl
  liesBuilder:=by kernel_rfl
  t5:=Tryz.underlying5
  a5:=Tryz.isAgg5
  z5:=Tryz.sizeOf5
  v5:=Tryz.zeroValue5
  infoByte:=by kernel_rfl
  cellsByte:=by kernel_rfl
  sizeByte:=by kernel_rfl
  neB5:=by decide}
open Go.RowKit Go.Lib in
theorem Tryz.strings_Repeat_main(s:ByteArray)(c:Nat)(w:World)(hc2:2≤c)(hc:c≤9223372036854775807)(hlen:s.size*c≤140737488355328)(h0:0<s.size):
    Calls Tryz.prog 255 #[.string s,.int .i64 c] w λe w'=>e= .returned (.string ⟨(Lib.repeatL s.data.toList c).toArray⟩)∧Below w.heap.size w w':=Any.strings_Repeat_main Tryz.lays105 Tryz.Builder_Extra_105 s c w hc2 hc hlen h0
open Go.RowKit Go.Lib in
theorem Tryz.strings_Repeat_zero(s:ByteArray)(w:World):
    Calls Tryz.prog 255 #[.string s,.int .i64 0] w λe w'=>e= .returned (.string ⟨#[]⟩)∧w'=w:=Any.strings_Repeat_zero Tryz.lays105 s w
open Go.RowKit Go.Lib in
theorem Tryz.strings_Repeat_one(s:ByteArray)(w:World):
    Calls Tryz.prog 255 #[.string s,.int .i64 1] w λe w'=>e= .returned (.string s)∧w'=w:=Any.strings_Repeat_one Tryz.lays105 s w
end Go.Proofs
namespace Go.Proofs.YtojblnldfdeefaaGreatDoor.Cc
open Go Go.RowKit
set_option maxRecDepth 100000
noncomputable abbrev P:Program:=Tryz.prog
def k0:O:=.cells 53 [.str [99,104],.str [100,101],.str [101,110],.str [102,114],.str [104,105],.str [115,118]] true true
def k1:O:=.cells 55 [.str [46],.str [226,128,153],.str [59],.str [45],.str [67,72,70],.str [44],.str [46],.str [59],.str [45],.str [226,130,172],.str [46],.str [44],.str [44],.str [45],.str [36],.str [44],.str [226,128,175],.str [59],.str [45],.str [226,130,172],.str [46],.str [44],.str [44],.str [45],.str [226,130,185],.str [44],.str [194,160],.str [59],.str [226,136,146],.str [107,114]] true true
def k2:O:=.cells 62 [.str [65,66,83],.str [65,78,68],.str [65,86,69,82,65,71,69],.str [67,69,73,76,73,78,71],.str [67,72,79,79,83,69],.str [67,79,76,85,77,78,83],.str [67,79,78,67,65,84],.str [67,79,85,78,84],.str [67,79,85,78,84,65],.str [67,79,85,78,84,66,76,65,78,75],.str [69,86,69,78],.str [69,88,65,67,84],.str [70,65,67,84],.str [70,65,76,83,69],.str [70,73,78,68],.str [70,76,79,79,82],.str [71,67,68],.str [73,70],.str [73,70,69,82,82,79,82],.str [73,70,78,65],.str [73,78,68,69,88],.str [73,78,84],.str [73,83,66,76,65,78,75],.str [73,83,69,82,82,79,82],.str [73,83,76,79,71,73,67,65,76],.str [73,83,78,65],.str [73,83,78,85,77,66,69,82],.str [73,83,84,69,88,84],.str [76,65,82,71,69],.str [76,67,77],.str [76,69,70,84],.str [76,69,78],.str [76,79,87,69,82],.str [77,65,84,67,72],.str [77,65,88],.str [77,69,68,73,65,78],.str [77,73,68],.str [77,73,78],.str [77,79,68],.str [78],.str [78,65],.str [78,79,84],.str [79,68,68],.str [79,82],.str [80,73],.str [80,79,87,69,82],.str [80,82,79,68,85,67,84],.str [81,85,79,84,73,69,78,84],.str [82,69,80,84],.str [82,73,71,72,84],.str [82,79,85,78,68],.str [82,79,85,78,68,68,79,87,78],.str [82,79,85,78,68,85,80],.str [82,79,87,83],.str [83,73,71,78],.str [83,77,65,76,76],.str [83,81,82,84],.str [83,85,66,83,84,73,84,85,84,69],.str [83,85,77],.str [83,85,77,83,81],.str [84],.str [84,69,88,84],.str [84,82,73,77],.str [84,82,85,69],.str [84,82,85,78,67],.str [85,80,80,69,82],.str [86,65,76,85,69],.str [88,79,82]] true true
def k3:O:=.gone
def k4:O:=.gone
def k5:O:=.cells 406 [.int .u8 (.ofNat 240),.int .u8 (.ofNat 240),.int .u8 (.ofNat 240),.int .u8 (.ofNat 240),.int .u8 (.ofNat 240),.int .u8 (.ofNat 240),.int .u8 (.ofNat 240),.int .u8 (.ofNat 240),.int .u8 (.ofNat 240),.int .u8 (.ofNat 240),.int .u8 (.ofNat 240),.int .u8 (.ofNat 240),.int .u8 (.ofNat 240),.int .u8 (.ofNat 240),.int .u8 (.ofNat 240),.int .u8 (.ofNat 240),.int .u8 (.ofNat 240),.int .u8 (.ofNat 240),.int .u8 (.ofNat 240),.int .u8 (.ofNat 240),.int .u8 (.ofNat 240),.int .u8 (.ofNat 240),.int .u8 (.ofNat 240),.int .u8 (.ofNat 240),.int .u8 (.ofNat 240),.int .u8 (.ofNat 240),.int .u8 (.ofNat 240),.int .u8 (.ofNat 240),.int .u8 (.ofNat 240),.int .u8 (.ofNat 240),.int .u8 (.ofNat 240),.int .u8 (.ofNat 240),.int .u8 (.ofNat 240),.int .u8 (.ofNat 240),.int .u8 (.ofNat 240),.int .u8 (.ofNat 240),.int .u8 (.ofNat 240),.int .u8 (.ofNat 240),.int .u8 (.ofNat 240),.int .u8 (.ofNat 240),.int .u8 (.ofNat 240),.int .u8 (.ofNat 240),.int .u8 (.ofNat 240),.int .u8 (.ofNat 240),.int .u8 (.ofNat 240),.int .u8 (.ofNat 240),.int .u8 (.ofNat 240),.int .u8 (.ofNat 240),.int .u8 (.ofNat 240),.int .u8 (.ofNat 240),.int .u8 (.ofNat 240),.int .u8 (.ofNat 240),.int .u8 (.ofNat 240),.int .u8 (.ofNat 240),.int .u8 (.ofNat 240),.int .u8 (.ofNat 240),.int .u8 (.ofNat 240),.int .u8 (.ofNat 240),.int .u8 (.ofNat 240),.int .u8 (.ofNat 240),.int .u8 (.ofNat 240),.int .u8 (.ofNat 240),.int .u8 (.ofNat 240),.int .u8 (.ofNat 240),.int .u8 (.ofNat 240),.int .u8 (.ofNat 240),.int .u8 (.ofNat 240),.int .u8 (.ofNat 240),.int .u8 (.ofNat 240),.int .u8 (.ofNat 240),.int .u8 (.ofNat 240),.int .u8 (.ofNat 240),.int .u8 (.ofNat 240),.int .u8 (.ofNat 240),.int .u8 (.ofNat 240),.int .u8 (.ofNat 240),.int .u8 (.ofNat 240),.int .u8 (.ofNat 240),.int .u8 (.ofNat 240),.int .u8 (.ofNat 240),.int .u8 (.ofNat 240),.int .u8 (.ofNat 240),.int .u8 (.ofNat 240),.int .u8 (.ofNat 240),.int .u8 (.ofNat 240),.int .u8 (.ofNat 240),.int .u8 (.ofNat 240),.int .u8 (.ofNat 240),.int .u8 (.ofNat 240),.int .u8 (.ofNat 240),.int .u8 (.ofNat 240),.int .u8 (.ofNat 240),.int .u8 (.ofNat 240),.int .u8 (.ofNat 240),.int .u8 (.ofNat 240),.int .u8 (.ofNat 240),.int .u8 (.ofNat 240),.int .u8 (.ofNat 240),.int .u8 (.ofNat 240),.int .u8 (.ofNat 240),.int .u8 (.ofNat 240),.int .u8 (.ofNat 240),.int .u8 (.ofNat 240),.int .u8 (.ofNat 240),.int .u8 (.ofNat 240),.int .u8 (.ofNat 240),.int .u8 (.ofNat 240),.int .u8 (.ofNat 240),.int .u8 (.ofNat 240),.int .u8 (.ofNat 240),.int .u8 (.ofNat 240),.int .u8 (.ofNat 240),.int .u8 (.ofNat 240),.int .u8 (.ofNat 240),.int .u8 (.ofNat 240),.int .u8 (.ofNat 240),.int .u8 (.ofNat 240),.int .u8 (.ofNat 240),.int .u8 (.ofNat 240),.int .u8 (.ofNat 240),.int .u8 (.ofNat 240),.int .u8 (.ofNat 240),.int .u8 (.ofNat 240),.int .u8 (.ofNat 240),.int .u8 (.ofNat 240),.int .u8 (.ofNat 240),.int .u8 (.ofNat 240),.int .u8 (.ofNat 240),.int .u8 (.ofNat 241),.int .u8 (.ofNat 241),.int .u8 (.ofNat 241),.int .u8 (.ofNat 241),.int .u8 (.ofNat 241),.int .u8 (.ofNat 241),.int .u8 (.ofNat 241),.int .u8 (.ofNat 241),.int .u8 (.ofNat 241),.int .u8 (.ofNat 241),.int .u8 (.ofNat 241),.int .u8 (.ofNat 241),.int .u8 (.ofNat 241),.int .u8 (.ofNat 241),.int .u8 (.ofNat 241),.int .u8 (.ofNat 241),.int .u8 (.ofNat 241),.int .u8 (.ofNat 241),.int .u8 (.ofNat 241),.int .u8 (.ofNat 241),.int .u8 (.ofNat 241),.int .u8 (.ofNat 241),.int .u8 (.ofNat 241),.int .u8 (.ofNat 241),.int .u8 (.ofNat 241),.int .u8 (.ofNat 241),.int .u8 (.ofNat 241),.int .u8 (.ofNat 241),.int .u8 (.ofNat 241),.int .u8 (.ofNat 241),.int .u8 (.ofNat 241),.int .u8 (.ofNat 241),.int .u8 (.ofNat 241),.int .u8 (.ofNat 241),.int .u8 (.ofNat 241),.int .u8 (.ofNat 241),.int .u8 (.ofNat 241),.int .u8 (.ofNat 241),.int .u8 (.ofNat 241),.int .u8 (.ofNat 241),.int .u8 (.ofNat 241),.int .u8 (.ofNat 241),.int .u8 (.ofNat 241),.int .u8 (.ofNat 241),.int .u8 (.ofNat 241),.int .u8 (.ofNat 241),.int .u8 (.ofNat 241),.int .u8 (.ofNat 241),.int .u8 (.ofNat 241),.int .u8 (.ofNat 241),.int .u8 (.ofNat 241),.int .u8 (.ofNat 241),.int .u8 (.ofNat 241),.int .u8 (.ofNat 241),.int .u8 (.ofNat 241),.int .u8 (.ofNat 241),.int .u8 (.ofNat 241),.int .u8 (.ofNat 241),.int .u8 (.ofNat 241),.int .u8 (.ofNat 241),.int .u8 (.ofNat 241),.int .u8 (.ofNat 241),.int .u8 (.ofNat 241),.int .u8 (.ofNat 241),.int .u8 (.ofNat 241),.int .u8 (.ofNat 241),.int .u8 (.ofNat 2),.int .u8 (.ofNat 2),.int .u8 (.ofNat 2),.int .u8 (.ofNat 2),.int .u8 (.ofNat 2),.int .u8 (.ofNat 2),.int .u8 (.ofNat 2),.int .u8 (.ofNat 2),.int .u8 (.ofNat 2),.int .u8 (.ofNat 2),.int .u8 (.ofNat 2),.int .u8 (.ofNat 2),.int .u8 (.ofNat 2),.int .u8 (.ofNat 2),.int .u8 (.ofNat 2),.int .u8 (.ofNat 2),.int .u8 (.ofNat 2),.int .u8 (.ofNat 2),.int .u8 (.ofNat 2),.int .u8 (.ofNat 2),.int .u8 (.ofNat 2),.int .u8 (.ofNat 2),.int .u8 (.ofNat 2),.int .u8 (.ofNat 2),.int .u8 (.ofNat 2),.int .u8 (.ofNat 2),.int .u8 (.ofNat 2),.int .u8 (.ofNat 2),.int .u8 (.ofNat 2),.int .u8 (.ofNat 2),.int .u8 (.ofNat 19),.int .u8 (.ofNat 3),.int .u8 (.ofNat 3),.int .u8 (.ofNat 3),.int .u8 (.ofNat 3),.int .u8 (.ofNat 3),.int .u8 (.ofNat 3),.int .u8 (.ofNat 3),.int .u8 (.ofNat 3),.int .u8 (.ofNat 3),.int .u8 (.ofNat 3),.int .u8 (.ofNat 3),.int .u8 (.ofNat 3),.int .u8 (.ofNat 35),.int .u8 (.ofNat 3),.int .u8 (.ofNat 3),.int .u8 (.ofNat 52),.int .u8 (.ofNat 4),.int .u8 (.ofNat 4),.int .u8 (.ofNat 4),.int .u8 (.ofNat 68),.int .u8 (.ofNat 241),.int .u8 (.ofNat 241),.int .u8 (.ofNat 241),.int .u8 (.ofNat 241),.int .u8 (.ofNat 241),.int .u8 (.ofNat 241),.int .u8 (.ofNat 241),.int .u8 (.ofNat 241),.int .u8 (.ofNat 241),.int .u8 (.ofNat 241),.int .u8 (.ofNat 241)] true true
def k6:O:=.cells 409 [.int .u8 (.ofNat 128),.int .u8 (.ofNat 191),.int .u8 (.ofNat 160),.int .u8 (.ofNat 191),.int .u8 (.ofNat 128),.int .u8 (.ofNat 159),.int .u8 (.ofNat 144),.int .u8 (.ofNat 191),.int .u8 (.ofNat 128),.int .u8 (.ofNat 143),.int .u8 (.ofNat 0),.int .u8 (.ofNat 0),.int .u8 (.ofNat 0),.int .u8 (.ofNat 0),.int .u8 (.ofNat 0),.int .u8 (.ofNat 0),.int .u8 (.ofNat 0),.int .u8 (.ofNat 0),.int .u8 (.ofNat 0),.int .u8 (.ofNat 0),.int .u8 (.ofNat 0),.int .u8 (.ofNat 0),.int .u8 (.ofNat 0),.int .u8 (.ofNat 0),.int .u8 (.ofNat 0),.int .u8 (.ofNat 0),.int .u8 (.ofNat 0),.int .u8 (.ofNat 0),.int .u8 (.ofNat 0),.int .u8 (.ofNat 0),.int .u8 (.ofNat 0),.int .u8 (.ofNat 0)] true true
def k7:O:=.gone
def k8:O:=.gone
def k9:O:=.gone
def k10:O:=.cells 457 [.int .u64 (.ofNat 1),.int .u64 (.ofNat 10),.int .u64 (.ofNat 100),.int .u64 (.ofNat 1000),.int .u64 (.ofNat 10000),.int .u64 (.ofNat 100000),.int .u64 (.ofNat 1000000),.int .u64 (.ofNat 10000000),.int .u64 (.ofNat 100000000),.int .u64 (.ofNat 1000000000),.int .u64 (.ofNat 10000000000),.int .u64 (.ofNat 100000000000),.int .u64 (.ofNat 1000000000000),.int .u64 (.ofNat 10000000000000),.int .u64 (.ofNat 100000000000000),.int .u64 (.ofNat 1000000000000000),.int .u64 (.ofNat 10000000000000000),.int .u64 (.ofNat 100000000000000000),.int .u64 (.ofNat 1000000000000000000),.int .u64 (.ofNat 10000000000000000000)] true true
def k11:O:=.cells 469 [.int .u8 (.ofNat 0),.int .u8 (.ofNat 1),.int .u8 (.ofNat 28),.int .u8 (.ofNat 2),.int .u8 (.ofNat 29),.int .u8 (.ofNat 14),.int .u8 (.ofNat 24),.int .u8 (.ofNat 3),.int .u8 (.ofNat 30),.int .u8 (.ofNat 22),.int .u8 (.ofNat 20),.int .u8 (.ofNat 15),.int .u8 (.ofNat 25),.int .u8 (.ofNat 17),.int .u8 (.ofNat 4),.int .u8 (.ofNat 8),.int .u8 (.ofNat 31),.int .u8 (.ofNat 27),.int .u8 (.ofNat 13),.int .u8 (.ofNat 23),.int .u8 (.ofNat 21),.int .u8 (.ofNat 19),.int .u8 (.ofNat 16),.int .u8 (.ofNat 7),.int .u8 (.ofNat 26),.int .u8 (.ofNat 12),.int .u8 (.ofNat 18),.int .u8 (.ofNat 6),.int .u8 (.ofNat 11),.int .u8 (.ofNat 5),.int .u8 (.ofNat 10),.int .u8 (.ofNat 9)] true true
def k12:O:=.cells 470 [.int .u8 (.ofNat 0),.int .u8 (.ofNat 1),.int .u8 (.ofNat 56),.int .u8 (.ofNat 2),.int .u8 (.ofNat 57),.int .u8 (.ofNat 49),.int .u8 (.ofNat 28),.int .u8 (.ofNat 3),.int .u8 (.ofNat 61),.int .u8 (.ofNat 58),.int .u8 (.ofNat 42),.int .u8 (.ofNat 50),.int .u8 (.ofNat 38),.int .u8 (.ofNat 29),.int .u8 (.ofNat 17),.int .u8 (.ofNat 4),.int .u8 (.ofNat 62),.int .u8 (.ofNat 47),.int .u8 (.ofNat 59),.int .u8 (.ofNat 36),.int .u8 (.ofNat 45),.int .u8 (.ofNat 43),.int .u8 (.ofNat 51),.int .u8 (.ofNat 22),.int .u8 (.ofNat 53),.int .u8 (.ofNat 39),.int .u8 (.ofNat 33),.int .u8 (.ofNat 30),.int .u8 (.ofNat 24),.int .u8 (.ofNat 18),.int .u8 (.ofNat 12),.int .u8 (.ofNat 5),.int .u8 (.ofNat 63),.int .u8 (.ofNat 55),.int .u8 (.ofNat 48),.int .u8 (.ofNat 27),.int .u8 (.ofNat 60),.int .u8 (.ofNat 41),.int .u8 (.ofNat 37),.int .u8 (.ofNat 16),.int .u8 (.ofNat 46),.int .u8 (.ofNat 35),.int .u8 (.ofNat 44),.int .u8 (.ofNat 21),.int .u8 (.ofNat 52),.int .u8 (.ofNat 32),.int .u8 (.ofNat 23),.int .u8 (.ofNat 11),.int .u8 (.ofNat 54),.int .u8 (.ofNat 26),.int .u8 (.ofNat 40),.int .u8 (.ofNat 15),.int .u8 (.ofNat 34),.int .u8 (.ofNat 20),.int .u8 (.ofNat 31),.int .u8 (.ofNat 10),.int .u8 (.ofNat 25),.int .u8 (.ofNat 14),.int .u8 (.ofNat 19),.int .u8 (.ofNat 9),.int .u8 (.ofNat 13),.int .u8 (.ofNat 8),.int .u8 (.ofNat 7),.int .u8 (.ofNat 6)] true true
noncomputable def t0:Tr O:=(((((((((((((Tr.leaf).set 0 k0).set 1 k1).set 2 k2).set 3 k3).set 4 k4).set 5 k5).set 6 k6).set 7 k7).set 8 k8).set 9 k9).set 10 k10).set 11 k11).set 12 k12
noncomputable def h0:Heap:=⟨t0,13⟩
noncomputable def ng0:Con:=⟨13,λm=>h0.get m,by
  intro m x h;have key:∀(t:Tr O)(k:Nat)(y:O),(∀m x,t.get m=some x→x.own=false)→y.own=false→∀m x,(t.set k y).get m=some x→x.own=false:=by
    intro t k y ht hy m x h;rw[Tr.get_set]at h;split at h
    · cases h;exact hy
    exact ht m x h
  have h':t0.get m=some x:=h;exact(key _ _ _ (key _ _ _ (key _ _ _ (key _ _ _ (key _ _ _ (key _ _ _ (key _ _ _ (key _ _ _ (key _ _ _ (key _ _ _ (key _ _ _ (key _ _ _ (key _ _ _ (λm x h=>by cases h) rfl) rfl) rfl) rfl) rfl) rfl) rfl) rfl) rfl) rfl) rfl) rfl) rfl) m x h',λw=>Inv w,λ_ _ hg h=>h.grow hg.size hg.block⟩
theorem ext_of{f:FuncId}{fn:Func}{e:Array Value→Sem Value}(hf:P.funcs[f]?=some fn)(h:((fn.name=="runtime.NumGoroutine")=false)∧fn.body.isNone=true∧Extern.findNext fn=none∧Extern.find fn=some e):IsExt P f e:=⟨fn,hf,h⟩
theorem noNG:NoNG P:=by
  have h:(P.funcs.all λfn=> !(fn.name=="runtime.NumGoroutine"))=true:=by kernel_rfl
  intro f fn hf;rw[Array.all_eq_true]at h;obtain⟨hlt,e⟩:=Array.getElem?_eq_some_iff.1 hf;have:=h f hlt;rw[e]at this;simpa using this
theorem mixed:P.follows .mixedOrders=true:=by kernel_rfl
def runRep:List V→Option V
  | [.str s,.str old,.str new]=>cond (Nat.blt s.length 100000&&(Nat.ble 1 old.length&&(Nat.ble (s.length+Lib.count s old*new.length) 140737488355328&&Nat.ble (Lib.replaceAll s old new).length 1000000))) (some (.str (Lib.replaceAll s old new))) none
  |_=>none
theorem rep_ok{xs:List V}{H H':Heap}{r:V}(h:(match runRep xs with|some r=>some (r,H)|none=>none)=some (r,H')):OCall P ng0 175 xs H r H':=by
  split at h<;>first|(cases h;done)|skip
  rename_i y hy
  cases h
  unfold runRep at hy;split at hy<;>first|(cases hy;done)|skip
  rename_i s old new
  obtain⟨hb,hy⟩:=cond_if hy;cases hy
  simp only[Bool.and_eq_true]at hb;obtain⟨b1,b2,b3,b4⟩:=hb;have b1:s.length<100000:=by simpa[Nat.blt_eq]using b1
  have b2:=Nat.le_of_ble_eq_true b2;have b3:=Nat.le_of_ble_eq_true b3;have b4:=Nat.le_of_ble_eq_true b4;refine .inl ⟨λg vs w hg hr hs=>?_,enters noNG Tryz.func175 rfl⟩;obtain⟨v1,us,rfl,r1,hr⟩:=hr.cons;obtain⟨v2,us,rfl,r2,hr⟩:=hr.cons;obtain⟨v3,us,rfl,r3,hr⟩:=hr.cons;cases hr.nil
  cases r1 with
  |str s q1=>
  cases r2 with
  |str old q2=>
  cases r3 with
  |str new q3=>
  have hi:=hs.inv;rw[hg]at hi;obtain⟨m,hm⟩:=Inv.max hi;refine Calls.mono (Tryz.strings_ReplaceAll ⟨s.toArray⟩ ⟨old.toArray⟩ ⟨new.toArray⟩ m w ?_ hm ?_ ?_) ?_
  · show s.length<_;omega
  · exact b2
  · exact b3
  rintro e w' ⟨rfl,hbl⟩;exact⟨_,rfl,g,G.le.refl g,.str _ (Nat.le_trans b4 (by decide)),hs.grows ⟨hbl.os,hbl.tape,hbl.output,hbl.size,hbl.block⟩⟩
def hRep:Handler P ng0 where
  f:=175
  is xs:=match xs with| [.str _,.str (_::_),.str _]=>true|_=>false
  run _ xs H:=match runRep xs with|some r=>some (r,H)|none=>none
  ok _ _ _ xs H r H' _ h:=rep_ok h
  ext _ _ xs H r H' X H2 _ h k:=by
    split at h<;>first|(cases h;done)|skip
    rename_i y hy
    cases h
    exact⟨H2,rfl,k⟩
def runRpt:List V→Option V
  | [.str [c],.int .i64 (.ofNat n)]=>cond (Nat.blt n 100000) (some (.str (List.replicate n c))) none
  |_=>none
theorem repeatL_one'(c:UInt8):∀n,Lib.repeatL [c] n=List.replicate n c
  |0=>rfl
  |n+1=>by rw[Lib.repeatL,repeatL_one' c n,List.replicate_succ];rfl
theorem rpt_ok{xs:List V}{H H':Heap}{r:V}(h:(match runRpt xs with|some r=>some (r,H)|none=>none)=some (r,H')):OCall P ng0 255 xs H r H':=by
  split at h<;>first|(cases h;done)|skip
  rename_i y hy
  cases h
  unfold runRpt at hy;split at hy<;>first|(cases hy;done)|skip
  rename_i c n
  obtain⟨hb,hy⟩:=cond_if hy;cases hy
  have b1:n<100000:=by simpa[Nat.blt_eq]using hb
  refine .inl ⟨λg vs w hg hr hs=>?_,enters noNG Tryz.func255 rfl⟩;obtain⟨v1,us,rfl,r1,hr⟩:=hr.cons;obtain⟨v2,us,rfl,r2,hr⟩:=hr.cons;cases hr.nil
  cases r1 with
  |str s q1=>
  cases r2
  have hl:(List.replicate n c).length≤maxLen:=by rw[List.length_replicate];exact Nat.le_trans (Nat.le_of_lt b1) (by decide)
  rcases Nat.lt_or_ge n 2 with h|h
  · rcases(by omega:n=0∨n=1)with rfl|rfl
    · refine(Tryz.strings_Repeat_zero ⟨[c].toArray⟩ w).mono ?_;rintro e w' ⟨rfl,rfl⟩;exact⟨_,rfl,g,G.le.refl g,.str [] (by simp),hs⟩
    refine(Tryz.strings_Repeat_one ⟨[c].toArray⟩ w).mono ?_;rintro e w' ⟨rfl,rfl⟩;exact⟨_,rfl,g,G.le.refl g,.str [c] hl,hs⟩
  refine(Tryz.strings_Repeat_main ⟨[c].toArray⟩ n w h (by omega) (by show 1*n≤_;omega) (by show 0<1;omega)).mono ?_;rintro e w' ⟨rfl,hbl⟩;refine⟨_,rfl,g,G.le.refl g,?_,hs.grows ⟨hbl.os,hbl.tape,hbl.output,hbl.size,hbl.block⟩⟩;have e:Lib.repeatL (⟨#[c]⟩:ByteArray).data.toList n=List.replicate n c:=repeatL_one' c n;rw[e];exact .str _ hl
def hRpt:Handler P ng0 where
  f:=255
  is xs:=match xs with| [.str [_],.int .i64 (.ofNat _)]=>true|_=>false
  run _ xs H:=match runRpt xs with|some r=>some (r,H)|none=>none
  ok _ _ _ xs H r H' _ h:=rpt_ok h
  ext _ _ xs H r H' X H2 _ h k:=by
    split at h<;>first|(cases h;done)|skip
    rename_i y hy
    cases h
    exact⟨H2,rfl,k⟩
noncomputable def hs0:List (Handler P ng0):=[
  hRep,hRpt,
  hCmp 428 (ext_of Tryz.func428 ⟨by kernel_rfl,by kernel_rfl,by kernel_rfl,by kernel_rfl⟩),
  hAdd64 276 (ext_of Tryz.func276 ⟨by kernel_rfl,by kernel_rfl,by kernel_rfl,by kernel_rfl⟩),
  hSub64 277 (ext_of Tryz.func277 ⟨by kernel_rfl,by kernel_rfl,by kernel_rfl,by kernel_rfl⟩),
  hIndexByte 453 (ext_of Tryz.func453 ⟨by kernel_rfl,by kernel_rfl,by kernel_rfl,by kernel_rfl⟩),
  hCount 406 (ext_of Tryz.func406 ⟨by kernel_rfl,by kernel_rfl,by kernel_rfl,by kernel_rfl⟩),
  hLoad 455 .u32 (ext_of Tryz.func455 ⟨by kernel_rfl,by kernel_rfl,by kernel_rfl,by kernel_rfl⟩),
  hStore 470 (ext_of Tryz.func470 ⟨by kernel_rfl,by kernel_rfl,by kernel_rfl,by kernel_rfl⟩),
  hMark0 476 .disable (ext_of Tryz.func476 ⟨by kernel_rfl,by kernel_rfl,by kernel_rfl,by kernel_rfl⟩),
  hCas 477 .i32 (ext_of Tryz.func477 ⟨by kernel_rfl,by kernel_rfl,by kernel_rfl,by kernel_rfl⟩),
  hMark0 478 .enable (ext_of Tryz.func478 ⟨by kernel_rfl,by kernel_rfl,by kernel_rfl,by kernel_rfl⟩),
  hMark1 479 .acquire (ext_of Tryz.func479 ⟨by kernel_rfl,by kernel_rfl,by kernel_rfl,by kernel_rfl⟩),
  hMark1 481 .releaseMerge (ext_of Tryz.func481 ⟨by kernel_rfl,by kernel_rfl,by kernel_rfl,by kernel_rfl⟩),
  hDec 482 (ext_of Tryz.func482 ⟨by kernel_rfl,by kernel_rfl,by kernel_rfl,by kernel_rfl⟩)]
theorem assert_nil(w:World):(Instr.typeAssert Value.nilIface 20 327 true).run P w= .ok (.tuple #[.agg #[.int .i64 0,.int .i64 0],.bool false]) w:=by
  have hu:∀w,(underlying 327).run P w= .ok _ w:=λw=>run_underlying Tryz.underlying327 w;have hz:=Tryz.zeroValue327;simp[Instr.typeAssert,hu,hz]
theorem parse1_idle(p q r:Option Addr)(w:World):CallsD P 315 #[.pointer p,.pointer q,.pointer r] .returning w λe u' w'=>u'= .returning∧(∃v,e= .returned v)∧w'=w.alloc (Obj.cells #[.int .i64 0,.int .i64 0] 327):=by
  refine callsD_of_wpS Tryz.func315 rfl λc₀ cs hu=>?_;apply wpS_seq;apply wpS_region;simp[wpOpsS,go_sem,recoverD,hu,Tryz.ntmps315,Exit.thenS,assert_nil];apply wpS_seq;apply wpS_region;simp[wpOpsS,go_sem,Exit.thenS];refine wpS_cond (t:=false) (by simp[Act.eval,Array.replicate]) ?_;simp only[Bool.false_eq_true,if_false];refine wpS_of_wp (wp_skip ?_);cases c₀
  simp_all[bodyPostS,results,Tryz.results315]
def isP:V→Bool
  | .ptr _ _=>true
  |_=>false
def idl0:FuncId→List V→Bool:=λf xs=>Nat.beq f 315&&(match xs with| [a,b,c]=>isP a&&(isP b&&isP c)|_=>false)
theorem isP_rel{g:G}{x:V}{v:Value}(h:isP x=true)(k:RelV g x v):∃p,v= .pointer p:=by
  cases x<;>simp[isP]at h
  cases k
  exact⟨_,rfl⟩
theorem idl0_ok:IdleOK P idl0:=by
  intro f xs h;simp only[idl0,Bool.and_eq_true]at h;obtain⟨hf,h⟩:=h;have:=Nat.eq_of_beq_eq_true hf;subst this;refine⟨enters noNG Tryz.func315 rfl,λg vs w hr=>?_⟩;split at h<;>first|(cases h;done)|skip
  rename_i a b c
  simp only[Bool.and_eq_true]at h;obtain⟨v1,us,rfl,r1,hr⟩:=hr.cons;obtain⟨v2,us,rfl,r2,hr⟩:=hr.cons;obtain⟨v3,us,rfl,r3,hr⟩:=hr.cons;cases hr.nil
  obtain⟨p,rfl⟩:=isP_rel h.1 r1;obtain⟨q,rfl⟩:=isP_rel h.2.1 r2;obtain⟨r,rfl⟩:=isP_rel h.2.2 r3;refine(parse1_idle p q r w).mono ?_;rintro e u' w' ⟨rfl,hv,rfl⟩;exact⟨rfl,hv,rfl,by simp,rfl,by simp,λk hk=>Below.heap_alloc w _ k hk⟩
noncomputable abbrev run0(n:Nat):CallF:=evF P (mkTy P) ng0 idl0 (isH hs0) (modH hs0) n
theorem run0_ok(n:Nat):CallOK P ng0 (run0 n):=evF_sound mixed noNG idl0_ok (modH_ok hs0) (modH_ext hs0) n
end Go.Proofs.YtojblnldfdeefaaGreatDoor.Cc
namespace Go.Proofs.YtojblnldfdeefaaGreatDoor.Cc
open Go Go.RowKit
theorem get_t0(m:Nat):t0.get m=if m=12 then some k12 else if m=11 then some k11 else if m=10 then some k10 else if m=9 then some k9 else if m=8 then some k8 else if m=7 then some k7 else if m=6 then some k6 else if m=5 then some k5 else if m=4 then some k4 else if m=3 then some k3 else if m=2 then some k2 else if m=1 then some k1 else if m=0 then some k0 else none:=by
  unfold t0;simp only[Tr.get_set];rfl
def below(n:Nat)(m:Nat):Bool:=Nat.blt m n
theorem within_mono{p q:Nat→Bool}(h:∀n,p n=true→q n=true):(∀x:V,x.within p=true→x.within q=true)∧∀xs:List V,V.withinL p xs=true→V.withinL q xs=true:=by
  have key:∀k,(∀x:V,SizeOf.sizeOf x≤k→x.within p=true→x.within q=true)∧∀xs:List V,SizeOf.sizeOf xs≤k→V.withinL p xs=true→V.withinL q xs=true:=by
    intro k;induction k with
    |zero=>exact⟨λx hx=>by cases x<;>simp at hx,λxs hx=>by cases xs<;>simp at hx⟩
    |succ k ih=>
      refine⟨λx hx hw=>?_,λxs hx hw=>?_⟩
      · cases x with
        |ptr n o=>exact h n hw
        |sl a n c d=>exact h n hw
        |map n=>exact h n hw
        |func f cs=>exact ih.2 cs (by simp at hx;omega) hw
        |meth f cs=>exact ih.2 cs (by simp at hx;omega) hw
        |iface t v=>exact ih.1 v (by simp at hx;omega) hw
        |agg cs=>exact ih.2 cs (by simp at hx;omega) hw
        |tuple cs=>exact ih.2 cs (by simp at hx;omega) hw
        |_=>rfl
      cases xs with
      |nil=>rfl
      |cons x xs=>
        simp only[V.withinL,Bool.and_eq_true]at hw ⊢;exact⟨ih.1 x (by simp at hx;omega) hw.1,ih.2 xs (by simp at hx;omega) hw.2⟩
  exact⟨λx=>(key _).1 x (Nat.le_refl _),λxs=>(key _).2 xs (Nat.le_refl _)⟩
theorem con_at(m:Nat):ng0.con m=t0.get m:=rfl
set_option maxRecDepth 100000
theorem w0:O.within (λ_=>false) k0=true:=by kernel_rfl
theorem w1:O.within (λ_=>false) k1=true:=by kernel_rfl
theorem w2:O.within (λ_=>false) k2=true:=by kernel_rfl
theorem w3:O.within (λ_=>false) k3=true:=by kernel_rfl
theorem w4:O.within (λ_=>false) k4=true:=by kernel_rfl
theorem w5:O.within (λ_=>false) k5=true:=by kernel_rfl
theorem w6:O.within (λ_=>false) k6=true:=by kernel_rfl
theorem w7:O.within (λ_=>false) k7=true:=by kernel_rfl
theorem w8:O.within (λ_=>false) k8=true:=by kernel_rfl
theorem w9:O.within (λ_=>false) k9=true:=by kernel_rfl
theorem w10:O.within (λ_=>false) k10=true:=by kernel_rfl
theorem w11:O.within (λ_=>false) k11=true:=by kernel_rfl
theorem w12:O.within (λ_=>false) k12=true:=by kernel_rfl
theorem con_some{m:Nat}{x:O}(h:ng0.con m=some x):O.within (λ_=>false) x=true:=by
  rw[con_at,get_t0]at h;by_cases e12:m=12
  · rw[if_pos e12]at h;rw[←Option.some.inj h];exact w12
  rw[if_neg e12]at h;by_cases e11:m=11
  · rw[if_pos e11]at h;rw[←Option.some.inj h];exact w11
  rw[if_neg e11]at h;by_cases e10:m=10
  · rw[if_pos e10]at h;rw[←Option.some.inj h];exact w10
  rw[if_neg e10]at h;by_cases e9:m=9
  · rw[if_pos e9]at h;rw[←Option.some.inj h];exact w9
  rw[if_neg e9]at h;by_cases e8:m=8
  · rw[if_pos e8]at h;rw[←Option.some.inj h];exact w8
  rw[if_neg e8]at h;by_cases e7:m=7
  · rw[if_pos e7]at h;rw[←Option.some.inj h];exact w7
  rw[if_neg e7]at h;by_cases e6:m=6
  · rw[if_pos e6]at h;rw[←Option.some.inj h];exact w6
  rw[if_neg e6]at h;by_cases e5:m=5
  · rw[if_pos e5]at h;rw[←Option.some.inj h];exact w5
  rw[if_neg e5]at h;by_cases e4:m=4
  · rw[if_pos e4]at h;rw[←Option.some.inj h];exact w4
  rw[if_neg e4]at h;by_cases e3:m=3
  · rw[if_pos e3]at h;rw[←Option.some.inj h];exact w3
  rw[if_neg e3]at h;by_cases e2:m=2
  · rw[if_pos e2]at h;rw[←Option.some.inj h];exact w2
  rw[if_neg e2]at h;by_cases e1:m=1
  · rw[if_pos e1]at h;rw[←Option.some.inj h];exact w1
  rw[if_neg e1]at h;by_cases e0:m=0
  · rw[if_pos e0]at h;rw[←Option.some.inj h];exact w0
  rw[if_neg e0]at h;cases h
theorem consts:Consts ng0 h0 where
  con m:=rfl
  top m hm:=by
    have hm:13≤m:=hm;show t0.get m=none;rw[get_t0]
    repeat rw[if_neg (by omega)]
  has b hb:=by
    have hb:b<13:=hb;rw[con_at,get_t0];have:b=0∨b=1∨b=2∨b=3∨b=4∨b=5∨b=6∨b=7∨b=8∨b=9∨b=10∨b=11∨b=12:=by omega
    rcases this with rfl|rfl|rfl|rfl|rfl|rfl|rfl|rfl|rfl|rfl|rfl|rfl|rfl<;>exact⟨_,rfl⟩
  inn m x hx:=by
    have:=con_some hx;cases x with
    |cells T cs ex ro=>exact(within_mono (λ_ h=>by cases h)).2 cs this
    |map es=>exact this
    |iter s p=>rfl
    |gone=>rfl
noncomputable def comes(r:Option (V×Heap))(x:V):Bool:=match r with|some (v,_)=>V.beq v x|none=>false
theorem comes_spec{r:Option (V×Heap)}{x:V}(h:comes r x=true):∃H,r=some (x,H):=by
  unfold comes at h;split at h
  · rename_i v H
    exact⟨H,by rw[V.beq_eq _ h]⟩
  cases h
theorem pure_of{l:List (Handler P ng0)}{n:Nat}{f:FuncId}{xs:List V}{r:V}(h:comes (evF P (mkTy P) ng0 idl0 (isH l) (modH l) n f xs h0) r=true)(hx:V.withinL (λ_=>false) xs=true)(hr:r.within (λ_=>false)=true):∀H,OCall P ng0 f xs H r H:=by
  obtain⟨H',h⟩:=comes_spec h;exact pure_call consts (evF_sound mixed noNG idl0_ok (modH_ok l) (modH_ext l) n f xs h0 r H' h) ((within_mono (λ_ h=>by cases h)).2 xs hx) ((within_mono (λ_ h=>by cases h)).1 r hr)
def fail(n:Nat):V:=.agg [.int .i64 4,.int .u64 (.ofNat 0),.bool false,.str [],.int .i64 (.ofNat n)]
def u(b:Nat):V:=.int .u64 (.ofNat b)
end Go.Proofs.YtojblnldfdeefaaGreatDoor.Cc
