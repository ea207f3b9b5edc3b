import Derived.Test.YteedncdcbgplfaaGreatDoorZb
import Derived.Shelf.Strings.Trim
import Derived.Shelf.Small.Wraps
import Derived.Shelf.Strings.BuilderK
import Derived.Shelf.Utf8.RuneCount
import Derived.Shelf.Strings.Builder2Cap
import Derived.Shelf.Strconv.Itoa3
import Derived.Shelf.Strconv.AtoiAll
import Derived.Shelf.Strconv.ParseUintEmpty
import Derived.Shelf.Strconv.ParseUint10b64
import Derived.Shelf.Strconv.ParseUint10b32
import Derived.Shelf.Strconv.ParseUint10b16
import Derived.Shelf.Strconv.ParseUint10b8
import Derived.Shelf.Pu.ParseUintPublic10
import Derived.Shelf.Strings.Shaped
import Derived.Shelf.GgClosure.StringsTrimFunc
import Derived.Shelf.Strings.SplitShaped
import Derived.Shelf.Unicode.Decode
import Derived.Shelf.Strings.Runes
import Derived.Shelf.Strings.RuneCount
import Derived.Shelf.Strings.AsciiSet
import Derived.Shelf.Strings.Repeat
import Derived.Test.YteedncdcbgplfaaGreatDoorProg
namespace Go.Proofs
open Go.Proofs.Tryz
open Go.Shelf
def Tryz.lays161_ren:Go.Shelf.Ren:=⟨fun|161=>108|231=>197|227=>198|233=>199|235=>200|228=>254|197=>215|151=>255|260=>259|152=>286|137=>135|119=>310|224=>311|225=>312|217=>212|266=>258|n=>n,fun|9=>9|4=>4|3=>3|5=>5|117=>269|116=>268|0=>0|124=>272|105=>286|21=>21|119=>280|46=>96|139=>283|138=>282|n=>n,fun|3=>2|4=>3|n=>n⟩
theorem Tryz.lays161:Go.Proofs.Lays.n161 Tryz.prog Tryz.lays161_ren:=by repeat' first|kernel_rfl|(intro w;kernel_rfl)|constructor|decide
open Go.RowKit in
theorem Tryz.strings_TrimLeft_one(s:ByteArray)(c:UInt8)(hc:c.toNat<128)(w:World):
  Calls Tryz.prog 108 #[.string s,.string ⟨#[c]⟩] w λe w'=>e= .returned (.string ⟨(Lib.trimLeftB s.data.toList c).toArray⟩)∧w'=w:=Any.strings_TrimLeft_one Tryz.lays161 s c hc w
def Tryz.lays162_ren:Go.Shelf.Ren:=⟨fun|162=>151|232=>227|227=>198|234=>228|236=>229|228=>254|271=>260|151=>255|120=>287|197=>215|152=>286|260=>259|137=>135|119=>310|224=>311|225=>312|217=>212|266=>258|n=>n,fun|9=>9|4=>4|3=>3|5=>5|117=>269|116=>268|0=>0|124=>272|21=>21|105=>286|46=>96|119=>280|139=>283|138=>282|n=>n,fun|3=>2|4=>3|n=>n⟩
theorem Tryz.lays162:Go.Proofs.Lays.n162 Tryz.prog Tryz.lays162_ren:=by repeat' first|kernel_rfl|(intro w;kernel_rfl)|constructor|decide
open Go.RowKit in
theorem Tryz.strings_TrimRight_one(s:ByteArray)(c:UInt8)(hc:c.toNat<128)(w:World)(hs:s.size≤9223372036854775807):
  Calls Tryz.prog 151 #[.string s,.string ⟨#[c]⟩] w λe w'=>e= .returned (.string ⟨(Lib.trimRightB s.data.toList c).toArray⟩)∧w'=w:=Any.strings_TrimRight_one Tryz.lays162 s c hc w hs
def Tryz.lays160_ren:Go.Shelf.Ren:=⟨fun|160=>192|232=>227|231=>197|227=>198|234=>228|233=>199|236=>229|235=>200|228=>254|271=>260|151=>255|197=>215|120=>287|152=>286|260=>259|137=>135|119=>310|224=>311|225=>312|217=>212|266=>258|n=>n,fun|9=>9|4=>4|3=>3|5=>5|117=>269|116=>268|0=>0|124=>272|21=>21|105=>286|46=>96|119=>280|139=>283|138=>282|n=>n,fun|3=>2|4=>3|n=>n⟩
theorem Tryz.lays160:Go.Proofs.Lays.n160 Tryz.prog Tryz.lays160_ren:=by repeat' first|kernel_rfl|(intro w;kernel_rfl)|constructor|decide
open Go.RowKit in
def Tryz.lays106_ren:Go.Shelf.Ren:=⟨fun|106=>304|213=>326|265=>334|n=>n,fun|9=>9|3=>3|n=>n,fun|n=>n⟩
theorem Tryz.lays106:Go.Proofs.Lays.n106 Tryz.prog Tryz.lays106_ren:=by repeat' first|kernel_rfl|(intro w;kernel_rfl)|constructor|decide
open Go.RowKit in
theorem Tryz.strings_Compare(a b:ByteArray)(w:World):
  Calls Tryz.prog 304 #[.string a,.string b] w λe w'=>e= .returned (.int .i64 (Lib.compareBytes a.data.toList b.data.toList))∧w'=w:=Any.strings_Compare Tryz.lays106 a b w
def Tryz.lays137_ren:Go.Shelf.Ren:=⟨fun|137=>135|217=>212|266=>258|n=>n,fun|9=>9|5=>5|3=>3|n=>n,fun|n=>n⟩
theorem Tryz.lays137:Go.Proofs.Lays.n137 Tryz.prog Tryz.lays137_ren:=by repeat' first|kernel_rfl|(intro w;kernel_rfl)|constructor|decide
open Go.RowKit in
theorem Tryz.strings_IndexByte(s:ByteArray)(c:Int)(w:World):
  Calls Tryz.prog 135 #[.string s,.int .u8 c] w λe w'=>e= .returned (.int .i64 (Lib.indexByte s.data.toList c.toNat.toUInt8))∧w'=w:=Any.strings_IndexByte Tryz.lays137 s c w
def Tryz.lays103_ren:Go.Shelf.Ren:=⟨fun|103=>66|210=>146|206=>220|n=>n,fun|9=>9|4=>4|24=>123|3=>3|n=>n,fun|n=>n⟩
theorem Tryz.lays103:Go.Proofs.Lays.n103 Tryz.prog Tryz.lays103_ren:=by repeat' first|kernel_rfl|(intro w;kernel_rfl)|constructor|decide
open Go.RowKit in
theorem Tryz.strings_CutPrefix(s p:ByteArray)(w:World):
  Calls Tryz.prog 66 #[.string s,.string p] w λe w'=>e= .returned (.tuple #[.string ⟨(Lib.trimPrefix s.data.toList p.data.toList).toArray⟩,.bool (Lib.hasPrefix s.data.toList p.data.toList)])∧w'=w:=Any.strings_CutPrefix Tryz.lays103 s p w
def Tryz.lays104_ren:Go.Shelf.Ren:=⟨fun|104=>67|211=>147|207=>221|n=>n,fun|9=>9|4=>4|24=>123|3=>3|n=>n,fun|n=>n⟩
theorem Tryz.lays104:Go.Proofs.Lays.n104 Tryz.prog Tryz.lays104_ren:=by repeat' first|kernel_rfl|(intro w;kernel_rfl)|constructor|decide
open Go.RowKit in
theorem Tryz.strings_CutSuffix(s p:ByteArray)(w:World)(hs:s.size≤9223372036854775807):
  Calls Tryz.prog 67 #[.string s,.string p] w λe w'=>e= .returned (.tuple #[.string ⟨(Lib.trimSuffix s.data.toList p.data.toList).toArray⟩,.bool (Lib.hasSuffix s.data.toList p.data.toList)])∧w'=w:=Any.strings_CutSuffix Tryz.lays104 s p w hs
def Tryz.lays129_ren:Go.Shelf.Ren:=⟨fun|129=>306|n=>n,fun|53=>25|3=>3|4=>4|46=>96|5=>5|9=>9|n=>n,fun|n=>n⟩
theorem Tryz.lays129:Go.Proofs.Lays.n129 Tryz.prog Tryz.lays129_ren:=by repeat' first|kernel_rfl|(intro w;kernel_rfl)|constructor|decide
theorem Tryz.bits_Len64(x:Int)(w:World)(h0:0≤x)(h1:x≤18446744073709551615):
  Calls Tryz.prog 306 #[.int .u64 x] w λe w'=>e= .returned (.int .i64 (Lib.bitLen x.toNat))∧w'=w:=Any.bits_Len64 Tryz.lays129 x w h0 h1
def Tryz.laysM171_ren:Go.Shelf.Ren:=⟨fun|171=>90|243=>167|246=>239|283=>277|284=>278|285=>279|286=>280|129=>306|317=>305|318=>307|319=>308|320=>309|337=>327|338=>328|n=>n,fun|3=>3|9=>9|2=>2|4=>4|171=>334|0=>0|53=>25|37=>252|5=>5|173=>336|212=>361|51=>210|20=>20|213=>362|46=>96|232=>382|233=>383|n=>n,fun|17=>7|18=>8|19=>9|n=>n⟩
theorem Tryz.laysM171:Go.Proofs.LaysM.n171 Tryz.prog Tryz.laysM171_ren:=by repeat' first|kernel_rfl|(intro w;kernel_rfl)|constructor|decide
open Go.RowKit Go.Sort Go.Lib in
theorem Tryz.strconv_Itoa(n:Int)(h0: -9223372036854775808≤n)(h1:n≤9223372036854775807)(w:World)(htab:Lib.TabIs Tryz.prog w "internal/strconv.uint64pow10" .u64 Lib.pow10Tab):
  Calls Tryz.prog 90 #[.int .i64 n] w λe w'=>e= .returned (.string ⟨(Lib.itoa n).toArray⟩)∧∃k os,w'=grow (w.drewN k) os:=Any.strconv_Itoa Tryz.laysM171 n h0 h1 w htab
def Tryz.laysC172_ren:Go.Shelf.Ren:=⟨fun|172=>102|244=>179|245=>180|247=>244|279=>245|280=>246|281=>247|282=>248|287=>263|316=>282|171=>90|205=>283|321=>291|322=>292|243=>167|246=>239|283=>277|284=>278|285=>279|286=>280|129=>306|317=>305|318=>307|319=>308|320=>309|337=>327|338=>328|n=>n,fun|9=>9|3=>3|75=>169|76=>170|4=>4|5=>5|167=>304|37=>252|0=>0|85=>305|2=>2|168=>307|53=>25|175=>295|46=>96|210=>340|127=>313|145=>366|143=>364|21=>21|171=>334|173=>336|212=>361|51=>210|20=>20|213=>362|232=>382|233=>383|80=>95|n=>n,fun|15=>4|16=>5|17=>7|18=>8|19=>9|n=>n⟩
theorem Tryz.laysC172:Go.Proofs.LaysC.n172 Tryz.prog Tryz.laysC172_ren:=by repeat' first|kernel_rfl|(intro w;kernel_rfl)|constructor|decide
open Go.RowKit in
theorem Tryz.strconv_Atoi_ok(s:ByteArray)(hmax:s.size≤9223372036854775806)(v:Int)(h:Lib.atoiAll s.data.toList= .ok v)(w:World):
  Calls Tryz.prog 102 #[.string s] w λe w'=>e= .returned (.tuple #[.int .i64 v,.nilIface])∧(w'=w∨∃t,w'=Lib.bytesWorld w 5 t):=Any.strconv_Atoi_ok Tryz.laysC172 s hmax v h w
open Go.RowKit in
theorem Tryz.strconv_Atoi_syntax(s:ByteArray)(hlim:s.size≤281474976710656)(h:Lib.atoiAll s.data.toList= Lib.atoiAll [])(ev:Value)(w:World)(hv:w.cell? ⟨4,0,none⟩=some ev)(hev:ev= .nilIface∨∃te pe,ev= .iface te pe):
  Calls Tryz.prog 102 #[.string s] w λe w'=>∃N,e= .returned (.tuple #[.int .i64 (0),.iface 307 (.pointer (some ⟨N,0,none⟩))])∧w.heap.size≤N∧w'.heap[N]?=some (.cells #[.string ⟨#[65,116,111,105]⟩,.string s,ev] 340 (0,0))∧Below w.heap.size w w':=Any.strconv_Atoi_syntax Tryz.laysC172 s hlim h ev w hv hev
open Go.RowKit in
theorem Tryz.strconv_Atoi_range(s:ByteArray)(hlim:s.size≤281474976710656)(h:Lib.atoiAll s.data.toList= .range)(ev:Value)(w:World)(hv:w.cell? ⟨5,0,none⟩=some ev)(hev:ev= .nilIface∨∃te pe,ev= .iface te pe):
  Calls Tryz.prog 102 #[.string s] w λe w'=>∃N,e= .returned (.tuple #[.int .i64 (Lib.atoiSat s.data.toList),.iface 307 (.pointer (some ⟨N,0,none⟩))])∧w.heap.size≤N∧w'.heap[N]?=some (.cells #[.string ⟨#[65,116,111,105]⟩,.string s,ev] 340 (0,0))∧Below w.heap.size w w':=Any.strconv_Atoi_range Tryz.laysC172 s hlim h ev w hv hev
def Tryz.laysPu14_ren:Go.Shelf.Ren:=⟨fun|14=>231|16=>263|17=>180|19=>291|20=>292|21=>245|22=>246|23=>247|24=>248|25=>282|27=>90|26=>283|28=>167|29=>239|30=>277|31=>278|32=>279|33=>280|35=>306|34=>305|36=>307|37=>308|38=>309|39=>327|40=>328|n=>n,fun|9=>9|3=>3|22=>25|24=>169|25=>295|4=>4|34=>304|5=>5|36=>96|37=>252|0=>0|39=>307|21=>21|44=>340|47=>313|50=>366|48=>364|2=>2|52=>334|55=>336|59=>361|60=>210|20=>20|61=>362|65=>382|66=>383|67=>95|n=>n,fun|0=>4|1=>5|2=>7|3=>8|4=>9|n=>n⟩
theorem Tryz.laysPu14:Go.Proofs.LaysPu.n14 Tryz.prog Tryz.laysPu14_ren:=by repeat' first|kernel_rfl|(intro w;kernel_rfl)|constructor|decide
open Go.RowKit in
theorem Tryz.strconv_ParseUint_10_at64_ok(s:ByteArray)(hmax:s.size≤9223372036854775806)(u:Nat)(h:Lib.parseUintB 64 s.data.toList= .ok u)(w:World):
  Calls Tryz.prog 231 #[.string s,.int .i64 10,.int .i64 64] w λe w'=>e= .returned (.tuple #[.int .u64 u,.nilIface])∧(w'=w∨w'=Lib.bytesWorld w 5 s):=Any.strconv_ParseUint_10_at64_ok Tryz.laysPu14 s hmax u h w
def Tryz.lays145_ren:Go.Shelf.Ren:=⟨fun|145=>224|220=>262|219=>290|217=>212|225=>312|224=>311|267=>315|266=>258|314=>329|n=>n,fun|9=>9|4=>4|59=>236|3=>3|5=>5|46=>96|146=>264|51=>210|n=>n,fun|1=>6|n=>n⟩
theorem Tryz.lays145:Go.Proofs.Lays.n145 Tryz.prog Tryz.lays145_ren:=by repeat' first|kernel_rfl|(intro w;kernel_rfl)|constructor|decide
open Go.RowKit Go.Lib in
theorem Tryz.strings_Cut(s sep:ByteArray)(m:Int)(w:World)(hs:s.size<4294967281)(hm:w.cell? ⟨6,0,none⟩=some (.int .i64 m)):
  Calls Tryz.prog 224 #[.string s,.string sep] w λe w'=>e= .returned (.tuple #[.string ⟨(Lib.cut s.data.toList sep.data.toList).1.toArray⟩,.string ⟨(Lib.cut s.data.toList sep.data.toList).2.1.toArray⟩,.bool (Lib.cut s.data.toList sep.data.toList).2.2])∧∃n,w'=w.drewN n:=Any.strings_Cut Tryz.lays145 s sep m w hs hm
def Tryz.lays272_ren:Go.Shelf.Ren:=⟨fun|272=>69|315=>148|n=>n,fun|9=>9|40=>122|4=>4|3=>3|0=>0|21=>21|n=>n,fun|n=>n⟩
theorem Tryz.lays272:Go.Proofs.Lays.n272 Tryz.prog Tryz.lays272_ren:=by repeat' first|kernel_rfl|(intro w;kernel_rfl)|constructor|decide
open Go.RowKit Go.Lib in
theorem Tryz.strings_TrimLeftFunc(g:Nat)(lb:Array Value)(eg:∀args w,(callFunc g args).run Tryz.prog w= .ok (.enter g args) w)(p:Nat→Bool)(s:ByteArray)(w:World)(hp:PredAt Tryz.prog g lb encR p w):
  Calls Tryz.prog 69 #[.string s,.func (.func g) #[] lb] w λe w'=>e= .returned (.string (Lib.trimLeftF p s))∧Below w.heap.size w w':=Any.strings_TrimLeftFunc Tryz.lays272 g lb eg p s w hp
def Tryz.lays238_ren:Go.Shelf.Ren:=⟨fun|238=>145|273=>219|197=>215|271=>260|260=>259|120=>287|n=>n,fun|9=>9|40=>122|4=>4|3=>3|105=>286|21=>21|5=>5|119=>280|0=>0|46=>96|139=>283|138=>282|n=>n,fun|3=>2|4=>3|n=>n⟩
theorem Tryz.lays238:Go.Proofs.Lays.n238 Tryz.prog Tryz.lays238_ren:=by repeat' first|kernel_rfl|(intro w;kernel_rfl)|constructor|decide
open Go.RowKit Go.Lib in
theorem Tryz.strings_TrimRightFunc(g:Nat)(lb:Array Value)(eg:∀args w,(callFunc g args).run Tryz.prog w= .ok (.enter g args) w)(p:Nat→Bool)(s:ByteArray)(w:World)(hs:s.size≤9223372036854775807)(hT:Lib.Utf8Tabs 2 3 w)(hp:PredAt Tryz.prog g lb encR p w):
  Calls Tryz.prog 145 #[.string s,.func (.func g) #[] lb] w λe w'=>e= .returned (.string (Lib.trimRightF p s))∧Below w.heap.size w w':=Any.strings_TrimRightFunc Tryz.lays238 g lb eg p s w hs hT hp
def Tryz.lays237_ren:Go.Shelf.Ren:=⟨fun|237=>64|272=>69|238=>145|315=>148|273=>219|197=>215|271=>260|260=>259|120=>287|n=>n,fun|9=>9|40=>122|4=>4|3=>3|105=>286|21=>21|0=>0|5=>5|119=>280|46=>96|139=>283|138=>282|n=>n,fun|3=>2|4=>3|n=>n⟩
theorem Tryz.lays237:Go.Proofs.Lays.n237 Tryz.prog Tryz.lays237_ren:=by repeat' first|kernel_rfl|(intro w;kernel_rfl)|constructor|decide
open Go.RowKit Go.Lib in
theorem Tryz.strings_TrimFunc(g:Nat)(lb:Array Value)(eg:∀args w,(callFunc g args).run Tryz.prog w= .ok (.enter g args) w)(p:Nat→Bool)(s:ByteArray)(w:World)(hs:s.size≤9223372036854775807)(hT:Lib.Utf8Tabs 2 3 w)(hp:PredAt Tryz.prog g lb encR p w):
  Calls Tryz.prog 64 #[.string s,.func (.func g) #[] lb] w λe w'=>e= .returned (.string (Lib.trimF p s))∧Below w.heap.size w w':=Any.strings_TrimFunc Tryz.lays237 g lb eg p s w hs hT hp
def Tryz.lays99_ren:Go.Shelf.Ren:=⟨fun|99=>182|206=>220|n=>n,fun|9=>9|4=>4|3=>3|n=>n,fun|n=>n⟩
theorem Tryz.lays99:Go.Proofs.Lays.n99 Tryz.prog Tryz.lays99_ren:=by repeat' first|kernel_rfl|(intro w;kernel_rfl)|constructor|decide
open Go.RowKit Go.Lib in
theorem Tryz.strings_HasPrefix(s p:ByteArray)(w:World):
  Calls Tryz.prog 182 #[.string s,.string p] w λe w'=>e= .returned (.bool (Lib.hasPrefix s.data.toList p.data.toList))∧w'=w:=Any.strings_HasPrefix Tryz.lays99 s p w
def Tryz.lays100_ren:Go.Shelf.Ren:=⟨fun|100=>230|207=>221|n=>n,fun|9=>9|4=>4|3=>3|n=>n,fun|n=>n⟩
theorem Tryz.lays100:Go.Proofs.Lays.n100 Tryz.prog Tryz.lays100_ren:=by repeat' first|kernel_rfl|(intro w;kernel_rfl)|constructor|decide
open Go.RowKit Go.Lib in
theorem Tryz.strings_HasSuffix(s p:ByteArray)(w:World)(hs:s.size≤9223372036854775807):
  Calls Tryz.prog 230 #[.string s,.string p] w λe w'=>e= .returned (.bool (Lib.hasSuffix s.data.toList p.data.toList))∧w'=w:=Any.strings_HasSuffix Tryz.lays100 s p w hs
def Tryz.lays155_ren:Go.Shelf.Ren:=⟨fun|155=>222|154=>261|138=>288|165=>183|143=>289|166=>184|197=>215|169=>186|195=>313|218=>314|240=>251|241=>252|219=>290|260=>259|276=>284|277=>285|217=>212|225=>312|224=>311|267=>315|266=>258|314=>329|n=>n,fun|9=>9|3=>3|4=>4|72=>254|0=>0|76=>170|105=>286|21=>21|5=>5|70=>251|20=>20|37=>252|75=>169|127=>313|164=>342|46=>96|119=>280|139=>283|138=>282|146=>264|51=>210|80=>95|n=>n,fun|1=>6|3=>2|4=>3|n=>n⟩
theorem Tryz.lays155:Go.Proofs.Lays.n155 Tryz.prog Tryz.lays155_ren:=by repeat' first|kernel_rfl|(intro w;kernel_rfl)|constructor|decide
theorem Tryz.Builder_Extra_155:Builder.Extra Tryz.prog Tryz.lays155_ren:=by repeat' first|kernel_rfl|(intro w;kernel_rfl)|constructor|decide
open Go.RowKit Go.Lib in
theorem Tryz.strings_ReplaceAll(s old new:ByteArray)(m:Int)(w:World)(hs:s.size<4294967281)(hm:w.cell? ⟨6,0,none⟩=some (.int .i64 m))(h1:1≤old.size)(hlen:s.size+Lib.countB s old*new.size≤140737488355328):
  Calls Tryz.prog 222 #[.string s,.string old,.string new] w λe w'=>
   e= .returned (.string ⟨(Lib.replaceAll s.data.toList old.data.toList new.data.toList).toArray⟩)∧Below w.heap.size w w':=Any.strings_ReplaceAll Tryz.lays155 Tryz.Builder_Extra_155 s old new m w hs hm h1 hlen
def Tryz.lays197_ren:Go.Shelf.Ren:=⟨fun|197=>215|260=>259|n=>n,fun|9=>9|21=>21|3=>3|4=>4|5=>5|105=>286|119=>280|0=>0|46=>96|139=>283|138=>282|n=>n,fun|3=>2|4=>3|n=>n⟩
theorem Tryz.lays197:Go.Proofs.Lays.n197 Tryz.prog Tryz.lays197_ren:=by repeat' first|kernel_rfl|(intro w;kernel_rfl)|constructor|decide
def Tryz.lays264_ren:Go.Shelf.Ren:=⟨fun|264=>250|n=>n,fun|53=>25|46=>96|n=>n,fun|n=>n⟩
theorem Tryz.lays264:Go.Proofs.Lays.n264 Tryz.prog Tryz.lays264_ren:=by repeat' first|kernel_rfl|(intro w;kernel_rfl)|constructor|decide
open Go.RowKit Go.Lib in
theorem Tryz.bits_Mul64(x y:Nat)(hx:x<18446744073709551616)(hy:y<18446744073709551616)(w:World):
  Calls Tryz.prog 250 #[.int .u64 x,.int .u64 y] w λe w'=>e= .returned (.tuple #[.int .u64 ((x*y/18446744073709551616:Nat):Int),.int .u64 ((x*y%18446744073709551616:Nat):Int)])∧w'=w:=Any.bits_Mul64 Tryz.lays264 x y hx hy w
def Tryz.lays105_ren:Go.Shelf.Ren:=⟨fun|105=>103|212=>181|99=>182|165=>183|166=>184|170=>185|169=>186|263=>249|264=>250|206=>220|240=>251|241=>252|276=>284|277=>285|n=>n,fun|9=>9|3=>3|4=>4|20=>20|0=>0|46=>96|109=>248|5=>5|72=>254|76=>170|51=>210|146=>264|53=>25|148=>311|70=>251|37=>252|75=>169|127=>313|164=>342|80=>95|n=>n,fun|n=>n⟩
theorem Tryz.lays105:Go.Proofs.Lays.n105 Tryz.prog Tryz.lays105_ren:=by repeat' first|kernel_rfl|(intro w;kernel_rfl)|constructor|decide
theorem Tryz.Builder_Extra_105:Builder.Extra Tryz.prog Tryz.lays105_ren:=by repeat' first|kernel_rfl|(intro w;kernel_rfl)|constructor|decide
open Go.RowKit Go.Lib in
theorem Tryz.strings_Repeat_main(s:ByteArray)(c:Nat)(w:World)(hc2:2≤c)(hc:c≤9223372036854775807)(hlen:s.size*c≤140737488355328)(h0:0<s.size):
  Calls Tryz.prog 103 #[.string s,.int .i64 c] w λe w'=>e= .returned (.string ⟨(Lib.repeatL s.data.toList c).toArray⟩)∧Below w.heap.size w w':=Any.strings_Repeat_main Tryz.lays105 Tryz.Builder_Extra_105 s c w hc2 hc hlen h0
open Go.RowKit Go.Lib in
theorem Tryz.strings_Repeat_zero(s:ByteArray)(w:World):
  Calls Tryz.prog 103 #[.string s,.int .i64 0] w λe w'=>e= .returned (.string ⟨#[]⟩)∧w'=w:=Any.strings_Repeat_zero Tryz.lays105 s w
open Go.RowKit Go.Lib in
theorem Tryz.strings_Repeat_one(s:ByteArray)(w:World):
  Calls Tryz.prog 103 #[.string s,.int .i64 1] w λe w'=>e= .returned (.string s)∧w'=w:=Any.strings_Repeat_one Tryz.lays105 s w
open Go.RowKit Go.Lib in
theorem Tryz.utf8_DecodeRuneInString(s:ByteArray)(w:World)(hT:Lib.Utf8Tabs 2 3 w):
  Calls Tryz.prog 215 #[.string s] w λe w'=>e= .returned (.tuple #[.int .i32 (Lib.decodeGo s).1,.int .i64 (Lib.decodeGo s).2])∧Below w.heap.size w w':=Any.utf8_DecodeRuneInString Tryz.lays197 s w hT
end Go.Proofs
