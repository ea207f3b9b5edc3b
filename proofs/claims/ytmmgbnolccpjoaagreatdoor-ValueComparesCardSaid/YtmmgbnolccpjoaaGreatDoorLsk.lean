import Derived.Test.YtmmgbnolccpjoaaGreatDoorZb
import Derived.Shelf.Strings.Trim
import Derived.Shelf.Small.Wraps
import Derived.Shelf.Strings.BuilderK
import Derived.Shelf.Utf8.RuneCount
import Derived.Shelf.Strings.Builder2Cap
import Derived.Shelf.Strconv.Itoa3
import Derived.Shelf.Strconv.AtoiAll
import Derived.Shelf.Strconv.ParseUintEmpty
import Derived.Shelf.Strconv.ParseUint10b64
import Derived.Shelf.Strconv.ParseUint10b32
import Derived.Shelf.Strconv.ParseUint10b16
import Derived.Shelf.Strconv.ParseUint10b8
import Derived.Shelf.Pu.ParseUintPublic10
import Derived.Shelf.Strings.Shaped
import Derived.Shelf.GgClosure.StringsTrimFunc
import Derived.Shelf.Strings.SplitShaped
import Derived.Shelf.Unicode.Decode
import Derived.Shelf.Strings.Runes
import Derived.Shelf.Strings.RuneCount
import Derived.Shelf.Strings.AsciiSet
import Derived.Shelf.Strings.Repeat
import Derived.Test.YtmmgbnolccpjoaaGreatDoorProg
namespace Go.Proofs
open Go.Proofs.Tryz
open Go.Shelf
def Tryz.lays161_ren:Go.Shelf.Ren:=⟨fun|161=>163|231=>215|227=>216|233=>217|235=>218|228=>260|197=>206|151=>261|260=>254|152=>299|137=>209|119=>333|224=>331|225=>330|217=>255|266=>294|n=>n,fun|9=>9|4=>4|3=>3|5=>5|117=>228|116=>227|0=>0|124=>231|105=>219|21=>21|119=>292|46=>102|139=>295|138=>294|n=>n,fun|3=>5|4=>6|n=>n⟩
theorem Tryz.lays161:Go.Proofs.Lays.n161 Tryz.prog Tryz.lays161_ren:=by repeat' first|kernel_rfl|(intro w;kernel_rfl)|constructor|decide
open Go.RowKit in
theorem Tryz.strings_TrimLeft_one(s:ByteArray)(c:UInt8)(hc:c.toNat<128)(w:World):
  Calls Tryz.prog 163 #[.string s,.string ⟨#[c]⟩] w λe w'=>e= .returned (.string ⟨(Lib.trimLeftB s.data.toList c).toArray⟩)∧w'=w:=Any.strings_TrimLeft_one Tryz.lays161 s c hc w
def Tryz.lays162_ren:Go.Shelf.Ren:=⟨fun|162=>164|232=>219|227=>216|234=>220|236=>221|228=>260|271=>253|151=>261|120=>293|197=>206|152=>299|260=>254|137=>209|119=>333|224=>331|225=>330|217=>255|266=>294|n=>n,fun|9=>9|4=>4|3=>3|5=>5|117=>228|116=>227|0=>0|124=>231|21=>21|105=>219|46=>102|119=>292|139=>295|138=>294|n=>n,fun|3=>5|4=>6|n=>n⟩
theorem Tryz.lays162:Go.Proofs.Lays.n162 Tryz.prog Tryz.lays162_ren:=by repeat' first|kernel_rfl|(intro w;kernel_rfl)|constructor|decide
open Go.RowKit in
theorem Tryz.strings_TrimRight_one(s:ByteArray)(c:UInt8)(hc:c.toNat<128)(w:World)(hs:s.size≤9223372036854775807):
  Calls Tryz.prog 164 #[.string s,.string ⟨#[c]⟩] w λe w'=>e= .returned (.string ⟨(Lib.trimRightB s.data.toList c).toArray⟩)∧w'=w:=Any.strings_TrimRight_one Tryz.lays162 s c hc w hs
def Tryz.lays160_ren:Go.Shelf.Ren:=⟨fun|160=>259|232=>219|231=>215|227=>216|234=>220|233=>217|236=>221|235=>218|228=>260|271=>253|151=>261|197=>206|120=>293|152=>299|260=>254|137=>209|119=>333|224=>331|225=>330|217=>255|266=>294|n=>n,fun|9=>9|4=>4|3=>3|5=>5|117=>228|116=>227|0=>0|124=>231|21=>21|105=>219|46=>102|119=>292|139=>295|138=>294|n=>n,fun|3=>5|4=>6|n=>n⟩
theorem Tryz.lays160:Go.Proofs.Lays.n160 Tryz.prog Tryz.lays160_ren:=by repeat' first|kernel_rfl|(intro w;kernel_rfl)|constructor|decide
open Go.RowKit in
def Tryz.lays106_ren:Go.Shelf.Ren:=⟨fun|106=>113|213=>180|265=>235|n=>n,fun|9=>9|3=>3|n=>n,fun|n=>n⟩
theorem Tryz.lays106:Go.Proofs.Lays.n106 Tryz.prog Tryz.lays106_ren:=by repeat' first|kernel_rfl|(intro w;kernel_rfl)|constructor|decide
open Go.RowKit in
theorem Tryz.strings_Compare(a b:ByteArray)(w:World):
  Calls Tryz.prog 113 #[.string a,.string b] w λe w'=>e= .returned (.int .i64 (Lib.compareBytes a.data.toList b.data.toList))∧w'=w:=Any.strings_Compare Tryz.lays106 a b w
def Tryz.lays137_ren:Go.Shelf.Ren:=⟨fun|137=>209|217=>255|266=>294|n=>n,fun|9=>9|5=>5|3=>3|n=>n,fun|n=>n⟩
theorem Tryz.lays137:Go.Proofs.Lays.n137 Tryz.prog Tryz.lays137_ren:=by repeat' first|kernel_rfl|(intro w;kernel_rfl)|constructor|decide
open Go.RowKit in
theorem Tryz.strings_IndexByte(s:ByteArray)(c:Int)(w:World):
  Calls Tryz.prog 209 #[.string s,.int .u8 c] w λe w'=>e= .returned (.int .i64 (Lib.indexByte s.data.toList c.toNat.toUInt8))∧w'=w:=Any.strings_IndexByte Tryz.lays137 s c w
def Tryz.lays103_ren:Go.Shelf.Ren:=⟨fun|103=>93|210=>158|206=>207|n=>n,fun|9=>9|4=>4|24=>126|3=>3|n=>n,fun|n=>n⟩
theorem Tryz.lays103:Go.Proofs.Lays.n103 Tryz.prog Tryz.lays103_ren:=by repeat' first|kernel_rfl|(intro w;kernel_rfl)|constructor|decide
open Go.RowKit in
theorem Tryz.strings_CutPrefix(s p:ByteArray)(w:World):
  Calls Tryz.prog 93 #[.string s,.string p] w λe w'=>e= .returned (.tuple #[.string ⟨(Lib.trimPrefix s.data.toList p.data.toList).toArray⟩,.bool (Lib.hasPrefix s.data.toList p.data.toList)])∧w'=w:=Any.strings_CutPrefix Tryz.lays103 s p w
def Tryz.lays104_ren:Go.Shelf.Ren:=⟨fun|104=>94|211=>159|207=>208|n=>n,fun|9=>9|4=>4|24=>126|3=>3|n=>n,fun|n=>n⟩
theorem Tryz.lays104:Go.Proofs.Lays.n104 Tryz.prog Tryz.lays104_ren:=by repeat' first|kernel_rfl|(intro w;kernel_rfl)|constructor|decide
open Go.RowKit in
theorem Tryz.strings_CutSuffix(s p:ByteArray)(w:World)(hs:s.size≤9223372036854775807):
  Calls Tryz.prog 94 #[.string s,.string p] w λe w'=>e= .returned (.tuple #[.string ⟨(Lib.trimSuffix s.data.toList p.data.toList).toArray⟩,.bool (Lib.hasSuffix s.data.toList p.data.toList)])∧w'=w:=Any.strings_CutSuffix Tryz.lays104 s p w hs
def Tryz.lays129_ren:Go.Shelf.Ren:=⟨fun|129=>182|n=>n,fun|53=>22|3=>3|4=>4|46=>102|5=>5|9=>9|n=>n,fun|n=>n⟩
theorem Tryz.lays129:Go.Proofs.Lays.n129 Tryz.prog Tryz.lays129_ren:=by repeat' first|kernel_rfl|(intro w;kernel_rfl)|constructor|decide
theorem Tryz.bits_Len64(x:Int)(w:World)(h0:0≤x)(h1:x≤18446744073709551615):
  Calls Tryz.prog 182 #[.int .u64 x] w λe w'=>e= .returned (.int .i64 (Lib.bitLen x.toNat))∧w'=w:=Any.bits_Len64 Tryz.lays129 x w h0 h1
def Tryz.laysM171_ren:Go.Shelf.Ren:=⟨fun|171=>109|243=>177|246=>234|283=>287|284=>288|285=>289|286=>290|129=>182|317=>323|318=>324|319=>325|320=>326|337=>345|338=>346|n=>n,fun|3=>3|9=>9|2=>2|4=>4|171=>287|0=>0|53=>22|37=>142|5=>5|173=>289|212=>316|51=>166|20=>20|213=>317|46=>102|232=>341|233=>342|n=>n,fun|17=>7|18=>10|19=>11|n=>n⟩
theorem Tryz.laysM171:Go.Proofs.LaysM.n171 Tryz.prog Tryz.laysM171_ren:=by repeat' first|kernel_rfl|(intro w;kernel_rfl)|constructor|decide
open Go.RowKit Go.Sort Go.Lib in
theorem Tryz.strconv_Itoa(n:Int)(h0: -9223372036854775808≤n)(h1:n≤9223372036854775807)(w:World)(htab:Lib.TabIs Tryz.prog w "internal/strconv.uint64pow10" .u64 Lib.pow10Tab):
  Calls Tryz.prog 109 #[.int .i64 n] w λe w'=>e= .returned (.string ⟨(Lib.itoa n).toArray⟩)∧∃k os,w'=grow (w.drewN k) os:=Any.strconv_Itoa Tryz.laysM171 n h0 h1 w htab
def Tryz.laysC172_ren:Go.Shelf.Ren:=⟨fun|172=>257|244=>297|245=>263|247=>329|279=>302|280=>303|281=>304|282=>305|287=>262|316=>334|171=>109|205=>335|321=>300|322=>301|243=>177|246=>234|283=>287|284=>288|285=>289|286=>290|129=>182|317=>323|318=>324|319=>325|320=>326|337=>345|338=>346|n=>n,fun|9=>9|3=>3|75=>233|76=>259|4=>4|5=>5|167=>297|37=>142|0=>0|85=>319|2=>2|168=>299|53=>22|175=>234|46=>102|210=>322|127=>314|145=>336|143=>334|21=>21|171=>287|173=>289|212=>316|51=>166|20=>20|213=>317|232=>341|233=>342|80=>237|n=>n,fun|15=>8|16=>9|17=>7|18=>10|19=>11|n=>n⟩
theorem Tryz.laysC172:Go.Proofs.LaysC.n172 Tryz.prog Tryz.laysC172_ren:=by repeat' first|kernel_rfl|(intro w;kernel_rfl)|constructor|decide
open Go.RowKit in
theorem Tryz.strconv_Atoi_ok(s:ByteArray)(hmax:s.size≤9223372036854775806)(v:Int)(h:Lib.atoiAll s.data.toList= .ok v)(w:World):
  Calls Tryz.prog 257 #[.string s] w λe w'=>e= .returned (.tuple #[.int .i64 v,.nilIface])∧(w'=w∨∃t,w'=Lib.bytesWorld w 5 t):=Any.strconv_Atoi_ok Tryz.laysC172 s hmax v h w
open Go.RowKit in
theorem Tryz.strconv_Atoi_syntax(s:ByteArray)(hlim:s.size≤281474976710656)(h:Lib.atoiAll s.data.toList=Lib.atoiAll [])(ev:Value)(w:World)(hv:w.cell? ⟨8,0,none⟩=some ev)(hev:ev= .nilIface∨∃te pe,ev= .iface te pe):
  Calls Tryz.prog 257 #[.string s] w λe w'=>∃N,e= .returned (.tuple #[.int .i64 (0),.iface 299 (.pointer (some ⟨N,0,none⟩))])∧w.heap.size≤N∧w'.heap[N]?=some (.cells #[.string ⟨#[65,116,111,105]⟩,.string s,ev] 322 (0,0))∧Below w.heap.size w w':=Any.strconv_Atoi_syntax Tryz.laysC172 s hlim (h.trans rfl) ev w hv hev
open Go.RowKit in
theorem Tryz.strconv_Atoi_range(s:ByteArray)(hlim:s.size≤281474976710656)(h:Lib.atoiAll s.data.toList= .range)(ev:Value)(w:World)(hv:w.cell? ⟨9,0,none⟩=some ev)(hev:ev= .nilIface∨∃te pe,ev= .iface te pe):
  Calls Tryz.prog 257 #[.string s] w λe w'=>∃N,e= .returned (.tuple #[.int .i64 (Lib.atoiSat s.data.toList),.iface 299 (.pointer (some ⟨N,0,none⟩))])∧w.heap.size≤N∧w'.heap[N]?=some (.cells #[.string ⟨#[65,116,111,105]⟩,.string s,ev] 322 (0,0))∧Below w.heap.size w w':=Any.strconv_Atoi_range Tryz.laysC172 s hlim h ev w hv hev
def Tryz.laysPu14_ren:Go.Shelf.Ren:=⟨fun|14=>223|16=>262|17=>263|19=>300|20=>301|21=>302|22=>303|23=>304|24=>305|25=>334|27=>109|26=>335|28=>177|29=>234|30=>287|31=>288|32=>289|33=>290|35=>182|34=>323|36=>324|37=>325|38=>326|39=>345|40=>346|n=>n,fun|9=>9|3=>3|22=>22|24=>233|25=>234|4=>4|34=>297|5=>5|36=>102|37=>142|0=>0|39=>299|21=>21|44=>322|47=>314|50=>336|48=>334|2=>2|52=>287|55=>289|59=>316|60=>166|20=>20|61=>317|65=>341|66=>342|67=>237|n=>n,fun|0=>8|1=>9|2=>7|3=>10|4=>11|n=>n⟩
theorem Tryz.laysPu14:Go.Proofs.LaysPu.n14 Tryz.prog Tryz.laysPu14_ren:=by repeat' first|kernel_rfl|(intro w;kernel_rfl)|constructor|decide
open Go.RowKit in
theorem Tryz.strconv_ParseUint_10_at64_ok(s:ByteArray)(hmax:s.size≤9223372036854775806)(u:Nat)(h:Lib.parseUintB 64 s.data.toList= .ok u)(w:World):
  Calls Tryz.prog 223 #[.string s,.int .i64 10,.int .i64 64] w λe w'=>e= .returned (.tuple #[.int .u64 u,.nilIface])∧(w'=w∨w'=Lib.bytesWorld w 5 s):=Any.strconv_ParseUint_10_at64_ok Tryz.laysPu14 s hmax u h w
def Tryz.lays145_ren:Go.Shelf.Ren:=⟨fun|145=>212|220=>258|219=>298|217=>255|225=>330|224=>331|267=>332|266=>294|314=>347|n=>n,fun|9=>9|4=>4|59=>195|3=>3|5=>5|46=>102|146=>312|51=>166|n=>n,fun|1=>2|n=>n⟩
theorem Tryz.lays145:Go.Proofs.Lays.n145 Tryz.prog Tryz.lays145_ren:=by repeat' first|kernel_rfl|(intro w;kernel_rfl)|constructor|decide
open Go.RowKit Go.Lib in
theorem Tryz.strings_Cut(s sep:ByteArray)(m:Int)(w:World)(hs:s.size<4294967281)(hm:w.cell? ⟨2,0,none⟩=some (.int .i64 m)):
  Calls Tryz.prog 212 #[.string s,.string sep] w λe w'=>e= .returned (.tuple #[.string ⟨(Lib.cut s.data.toList sep.data.toList).1.toArray⟩,.string ⟨(Lib.cut s.data.toList sep.data.toList).2.1.toArray⟩,.bool (Lib.cut s.data.toList sep.data.toList).2.2])∧∃n,w'=w.drewN n:=Any.strings_Cut Tryz.lays145 s sep m w hs hm
def Tryz.lays272_ren:Go.Shelf.Ren:=⟨fun|272=>96|315=>160|n=>n,fun|9=>9|40=>125|4=>4|3=>3|0=>0|21=>21|n=>n,fun|n=>n⟩
theorem Tryz.lays272:Go.Proofs.Lays.n272 Tryz.prog Tryz.lays272_ren:=by repeat' first|kernel_rfl|(intro w;kernel_rfl)|constructor|decide
open Go.RowKit Go.Lib in
theorem Tryz.strings_TrimLeftFunc(g:Nat)(lb:Array Value)(eg:∀args w,(callFunc g args).run Tryz.prog w= .ok (.enter g args) w)(p:Nat→Bool)(s:ByteArray)(w:World)(hp:PredAt Tryz.prog g lb encR p w):
  Calls Tryz.prog 96 #[.string s,.func (.func g) #[] lb] w λe w'=>e= .returned (.string (Lib.trimLeftF p s))∧Below w.heap.size w w':=Any.strings_TrimLeftFunc Tryz.lays272 g lb eg p s w hp
def Tryz.lays238_ren:Go.Shelf.Ren:=⟨fun|238=>157|273=>205|197=>206|271=>253|260=>254|120=>293|n=>n,fun|9=>9|40=>125|4=>4|3=>3|105=>219|21=>21|5=>5|119=>292|0=>0|46=>102|139=>295|138=>294|n=>n,fun|3=>5|4=>6|n=>n⟩
theorem Tryz.lays238:Go.Proofs.Lays.n238 Tryz.prog Tryz.lays238_ren:=by repeat' first|kernel_rfl|(intro w;kernel_rfl)|constructor|decide
open Go.RowKit Go.Lib in
theorem Tryz.strings_TrimRightFunc(g:Nat)(lb:Array Value)(eg:∀args w,(callFunc g args).run Tryz.prog w= .ok (.enter g args) w)(p:Nat→Bool)(s:ByteArray)(w:World)(hs:s.size≤9223372036854775807)(hT:Lib.Utf8Tabs 5 6 w)(hp:PredAt Tryz.prog g lb encR p w):
  Calls Tryz.prog 157 #[.string s,.func (.func g) #[] lb] w λe w'=>e= .returned (.string (Lib.trimRightF p s))∧Below w.heap.size w w':=Any.strings_TrimRightFunc Tryz.lays238 g lb eg p s w hs hT hp
def Tryz.lays237_ren:Go.Shelf.Ren:=⟨fun|237=>91|272=>96|238=>157|315=>160|273=>205|197=>206|271=>253|260=>254|120=>293|n=>n,fun|9=>9|40=>125|4=>4|3=>3|105=>219|21=>21|0=>0|5=>5|119=>292|46=>102|139=>295|138=>294|n=>n,fun|3=>5|4=>6|n=>n⟩
theorem Tryz.lays237:Go.Proofs.Lays.n237 Tryz.prog Tryz.lays237_ren:=by repeat' first|kernel_rfl|(intro w;kernel_rfl)|constructor|decide
open Go.RowKit Go.Lib in
theorem Tryz.strings_TrimFunc(g:Nat)(lb:Array Value)(eg:∀args w,(callFunc g args).run Tryz.prog w= .ok (.enter g args) w)(p:Nat→Bool)(s:ByteArray)(w:World)(hs:s.size≤9223372036854775807)(hT:Lib.Utf8Tabs 5 6 w)(hp:PredAt Tryz.prog g lb encR p w):
  Calls Tryz.prog 91 #[.string s,.func (.func g) #[] lb] w λe w'=>e= .returned (.string (Lib.trimF p s))∧Below w.heap.size w w':=Any.strings_TrimFunc Tryz.lays237 g lb eg p s w hs hT hp
def Tryz.lays100_ren:Go.Shelf.Ren:=⟨fun|100=>222|207=>208|n=>n,fun|9=>9|4=>4|3=>3|n=>n,fun|n=>n⟩
theorem Tryz.lays100:Go.Proofs.Lays.n100 Tryz.prog Tryz.lays100_ren:=by repeat' first|kernel_rfl|(intro w;kernel_rfl)|constructor|decide
open Go.RowKit Go.Lib in
theorem Tryz.strings_HasSuffix(s p:ByteArray)(w:World)(hs:s.size≤9223372036854775807):
  Calls Tryz.prog 222 #[.string s,.string p] w λe w'=>e= .returned (.bool (Lib.hasSuffix s.data.toList p.data.toList))∧w'=w:=Any.strings_HasSuffix Tryz.lays100 s p w hs
def Tryz.lays155_ren:Go.Shelf.Ren:=⟨fun|155=>210|154=>256|138=>295|165=>283|143=>296|166=>284|197=>206|169=>286|195=>327|218=>328|240=>321|241=>322|219=>298|260=>254|276=>343|277=>344|217=>255|225=>330|224=>331|267=>332|266=>294|314=>347|n=>n,fun|9=>9|3=>3|4=>4|72=>284|0=>0|76=>259|105=>219|21=>21|5=>5|70=>282|20=>20|37=>142|75=>233|127=>314|164=>330|46=>102|119=>292|139=>295|138=>294|146=>312|51=>166|80=>237|n=>n,fun|1=>2|3=>5|4=>6|n=>n⟩
theorem Tryz.lays155:Go.Proofs.Lays.n155 Tryz.prog Tryz.lays155_ren:=by repeat' first|kernel_rfl|(intro w;kernel_rfl)|constructor|decide
theorem Tryz.Builder_Extra_155:Builder.Extra Tryz.prog Tryz.lays155_ren:=by repeat' first|kernel_rfl|(intro w;kernel_rfl)|constructor|decide
open Go.RowKit Go.Lib in
theorem Tryz.strings_ReplaceAll(s old new:ByteArray)(m:Int)(w:World)(hs:s.size<4294967281)(hm:w.cell? ⟨2,0,none⟩=some (.int .i64 m))(h1:1≤old.size)(hlen:s.size+Lib.countB s old*new.size≤140737488355328):
  Calls Tryz.prog 210 #[.string s,.string old,.string new] w λe w'=>
   e= .returned (.string ⟨(Lib.replaceAll s.data.toList old.data.toList new.data.toList).toArray⟩)∧Below w.heap.size w w':=Any.strings_ReplaceAll Tryz.lays155 Tryz.Builder_Extra_155 s old new m w hs hm h1 hlen
def Tryz.lays264_ren:Go.Shelf.Ren:=⟨fun|264=>245|n=>n,fun|53=>22|46=>102|n=>n,fun|n=>n⟩
theorem Tryz.lays264:Go.Proofs.Lays.n264 Tryz.prog Tryz.lays264_ren:=by repeat' first|kernel_rfl|(intro w;kernel_rfl)|constructor|decide
open Go.RowKit Go.Lib in
theorem Tryz.bits_Mul64(x y:Nat)(hx:x<18446744073709551616)(hy:y<18446744073709551616)(w:World):
  Calls Tryz.prog 245 #[.int .u64 x,.int .u64 y] w λe w'=>e= .returned (.tuple #[.int .u64 ((x*y/18446744073709551616:Nat):Int),.int .u64 ((x*y%18446744073709551616:Nat):Int)])∧w'=w:=Any.bits_Mul64 Tryz.lays264 x y hx hy w
def Tryz.lays105_ren:Go.Shelf.Ren:=⟨fun|105=>232|212=>281|99=>282|165=>283|166=>284|170=>285|169=>286|263=>320|264=>245|206=>207|240=>321|241=>322|276=>343|277=>344|n=>n,fun|9=>9|3=>3|4=>4|20=>20|0=>0|46=>102|109=>280|5=>5|72=>284|76=>259|51=>166|146=>312|53=>22|148=>197|70=>282|37=>142|75=>233|127=>314|164=>330|80=>237|n=>n,fun|n=>n⟩
theorem Tryz.lays105:Go.Proofs.Lays.n105 Tryz.prog Tryz.lays105_ren:=by repeat' first|kernel_rfl|(intro w;kernel_rfl)|constructor|decide
theorem Tryz.Builder_Extra_105:Builder.Extra Tryz.prog Tryz.lays105_ren:=by repeat' first|kernel_rfl|(intro w;kernel_rfl)|constructor|decide
open Go.RowKit Go.Lib in
theorem Tryz.strings_Repeat_main(s:ByteArray)(c:Nat)(w:World)(hc2:2≤c)(hc:c≤9223372036854775807)(hlen:s.size*c≤140737488355328)(h0:0<s.size):
  Calls Tryz.prog 232 #[.string s,.int .i64 c] w λe w'=>e= .returned (.string ⟨(Lib.repeatL s.data.toList c).toArray⟩)∧Below w.heap.size w w':=Any.strings_Repeat_main Tryz.lays105 Tryz.Builder_Extra_105 s c w hc2 hc hlen h0
open Go.RowKit Go.Lib in
theorem Tryz.strings_Repeat_zero(s:ByteArray)(w:World):
  Calls Tryz.prog 232 #[.string s,.int .i64 0] w λe w'=>e= .returned (.string ⟨#[]⟩)∧w'=w:=Any.strings_Repeat_zero Tryz.lays105 s w
open Go.RowKit Go.Lib in
theorem Tryz.strings_Repeat_one(s:ByteArray)(w:World):
  Calls Tryz.prog 232 #[.string s,.int .i64 1] w λe w'=>e= .returned (.string s)∧w'=w:=Any.strings_Repeat_one Tryz.lays105 s w
end Go.Proofs
