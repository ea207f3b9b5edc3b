import Derived.Shelf.Strings.Builder1
import Derived.Shelf.Strings.Builder2
import Derived.Shelf.Strings.Trim
import Derived.Shelf.Small.Utf8
import Derived.Shelf.Small.Bits
import Derived.Shelf.Small.Strs
import Derived.Shelf.Small.Wraps
import Derived.Shelf.Strings.BuilderF
import Derived.Shelf.Strings.BuilderK
import Derived.Shelf.Utf8.RuneCount
import Derived.Shelf.Strings.Builder2Cap
import Derived.Shelf.Strconv.Atoi
import Derived.Shelf.Strconv.Itoa0
import Derived.Shelf.Strconv.Itoa1
import Derived.Shelf.LaysM
import Derived.Shelf.Strconv.Itoa2
import Derived.Shelf.Strconv.Itoa3
import Derived.Shelf.Strconv.AtoiErrFast
import Derived.Shelf.Strconv.ParseIntEmpty
import Derived.Shelf.Strconv.AtoiFail
import Derived.Shelf.Strconv.Clone
import Derived.Shelf.Strconv.SyntaxError
import Derived.Shelf.LaysC
import Derived.Shelf.Strconv.ToError
import Derived.Shelf.Strconv.Lower
import Derived.Shelf.Strconv.ParseUint10
import Derived.Shelf.Strconv.ParseUint10Empty
import Derived.Shelf.Strconv.ParseUint10Any
import Derived.Shelf.Strconv.ParseInt10
import Derived.Shelf.Strconv.AtoiLong
import Derived.Shelf.Strconv.AtoiInnerAll
import Derived.Shelf.Strconv.RangeError
import Derived.Shelf.Strconv.ToErrorRange
import Derived.Shelf.Strconv.AtoiAll
import Derived.Shelf.Strconv.ParseUintEmpty
import Derived.Shelf.Strconv.ParseUint10b64
import Derived.Shelf.Strconv.ParseUint10b32
import Derived.Shelf.Strconv.ParseUint10b16
import Derived.Shelf.Strconv.ParseUint10b8
import Derived.Ground.MpProg
import Derived.Shelf.Pu.ParseUintPublic10
import Derived.Shelf.Strings.Search1
import Derived.Shelf.Strings.Search2
import Derived.Shelf.Strings.Search3
import Derived.Shelf.Strings.Cut
import Derived.Shelf.Strings.Count
import Derived.Shelf.Strings.Shaped
import Derived.Shelf.GgClosure.StringsIndexFunc
import Derived.Shelf.GgClosure.StringsTrimFunc
import Derived.Shelf.Strings.Prefix
import Derived.Shelf.Strings.Split
import Derived.Shelf.Strings.Replace
import Derived.Shelf.Strings.SplitShaped
import Derived.Shelf.Unicode.Decode
import Derived.Shelf.Strings.Runes
import Derived.Shelf.Strings.RuneCount
import Derived.Shelf.Strings.AsciiSet
import Derived.Shelf.Bits.Mul64
import Derived.Shelf.Strings.Repeat
import Derived.Shelf.Unicode.DecodeSlow
import Derived.Shelf.Unicode.DecodeAny
import Derived.Shelf.Unicode.DecodeLast
import Derived.Test.YtmmgbnolccpjoaaGreatDoorProg
namespace Go.Proofs
open Go.Shelf
def Tryz.lays161_ren : Go.Shelf.Ren := ⟨fun | 161 => 163 | 231 => 215 | 227 => 216 | 233 => 217 | 235 => 218 | 228 => 260 | 197 => 206 | 151 => 261 | 260 => 254 | 152 => 299 | 137 => 209 | 119 => 333 | 224 => 331 | 225 => 330 | 217 => 255 | 266 => 294 | n => n, fun | 9 => 9 | 4 => 4 | 3 => 3 | 5 => 5 | 117 => 228 | 116 => 227 | 0 => 0 | 124 => 231 | 105 => 219 | 21 => 21 | 119 => 292 | 46 => 102 | 139 => 295 | 138 => 294 | n => n, fun | 3 => 5 | 4 => 6 | n => n⟩
theorem Tryz.lays161 : Go.Proofs.Lays.n161 Tryz.prog Tryz.lays161_ren := {
  mixed := by kernel_rfl
  f119 := Tryz.func333.trans (congrArg some (by kernel_rfl))
  f137 := Tryz.func209.trans (congrArg some (by kernel_rfl))
  f151 := Tryz.func261.trans (congrArg some (by kernel_rfl))
  f152 := Tryz.func299.trans (congrArg some (by kernel_rfl))
  f161 := Tryz.func163.trans (congrArg some (by kernel_rfl))
  f197 := Tryz.func206.trans (congrArg some (by kernel_rfl))
  f217 := Tryz.func255.trans (congrArg some (by kernel_rfl))
  f224 := Tryz.func331.trans (congrArg some (by kernel_rfl))
  f225 := Tryz.func330.trans (congrArg some (by kernel_rfl))
  f227 := Tryz.func216.trans (congrArg some (by kernel_rfl))
  f228 := Tryz.func260.trans (congrArg some (by kernel_rfl))
  f231 := Tryz.func215.trans (congrArg some (by kernel_rfl))
  f233 := Tryz.func217.trans (congrArg some (by kernel_rfl))
  f235 := Tryz.func218.trans (congrArg some (by kernel_rfl))
  f260 := Tryz.func254.trans (congrArg some (by kernel_rfl))
  f266 := Tryz.func294.trans (congrArg some (by kernel_rfl))
  t0 := Tryz.underlying0
  a0 := Tryz.isAgg0
  z0 := Tryz.sizeOf0
  v0 := Tryz.zeroValue0
  t3 := Tryz.underlying3
  a3 := Tryz.isAgg3
  z3 := Tryz.sizeOf3
  v3 := Tryz.zeroValue3
  t4 := Tryz.underlying4
  a4 := Tryz.isAgg4
  z4 := Tryz.sizeOf4
  v4 := Tryz.zeroValue4
  t5 := Tryz.underlying5
  a5 := Tryz.isAgg5
  z5 := Tryz.sizeOf5
  v5 := Tryz.zeroValue5
  t9 := Tryz.underlying9
  a9 := Tryz.isAgg9
  z9 := Tryz.sizeOf9
  v9 := Tryz.zeroValue9
  t21 := Tryz.underlying21
  a21 := Tryz.isAgg21
  z21 := Tryz.sizeOf21
  v21 := Tryz.zeroValue21
  t46 := Tryz.underlying102
  a46 := Tryz.isAgg102
  z46 := Tryz.sizeOf102
  v46 := Tryz.zeroValue102
  t105 := Tryz.underlying219
  a105 := Tryz.isAgg219
  z105 := Tryz.sizeOf219
  v105 := Tryz.zeroValue219
  t116 := Tryz.underlying227
  a116 := Tryz.isAgg227
  z116 := Tryz.sizeOf227
  t117 := Tryz.underlying228
  a117 := Tryz.isAgg228
  z117 := Tryz.sizeOf228
  v117 := Tryz.zeroValue228
  t119 := Tryz.underlying292
  a119 := Tryz.isAgg292
  z119 := Tryz.sizeOf292
  t124 := Tryz.underlying231
  a124 := Tryz.isAgg231
  z124 := Tryz.sizeOf231
  v124 := Tryz.zeroValue231
  t138 := Tryz.underlying294
  a138 := Tryz.isAgg294
  z138 := Tryz.sizeOf294
  v138 := Tryz.zeroValue294
  t139 := Tryz.underlying295
  a139 := Tryz.isAgg295
  z139 := Tryz.sizeOf295
  v139 := Tryz.zeroValue295
  g3 := by kernel_rfl
  g4 := by kernel_rfl }
open Go.RowKit in
theorem Tryz.strings_TrimLeft_one (s : ByteArray) (c : UInt8) (hc : c.toNat < 128) (w : World) :
  Calls Tryz.prog 163 #[.string s, .string ⟨#[c]⟩] w fun e w' => e = .returned (.string ⟨(Lib.trimLeftB s.data.toList c).toArray⟩) ∧ w' = w := Any.strings_TrimLeft_one Tryz.lays161 s c hc w
def Tryz.lays162_ren : Go.Shelf.Ren := ⟨fun | 162 => 164 | 232 => 219 | 227 => 216 | 234 => 220 | 236 => 221 | 228 => 260 | 271 => 253 | 151 => 261 | 120 => 293 | 197 => 206 | 152 => 299 | 260 => 254 | 137 => 209 | 119 => 333 | 224 => 331 | 225 => 330 | 217 => 255 | 266 => 294 | n => n, fun | 9 => 9 | 4 => 4 | 3 => 3 | 5 => 5 | 117 => 228 | 116 => 227 | 0 => 0 | 124 => 231 | 21 => 21 | 105 => 219 | 46 => 102 | 119 => 292 | 139 => 295 | 138 => 294 | n => n, fun | 3 => 5 | 4 => 6 | n => n⟩
theorem Tryz.lays162 : Go.Proofs.Lays.n162 Tryz.prog Tryz.lays162_ren := {
  mixed := by kernel_rfl
  f119 := Tryz.func333.trans (congrArg some (by kernel_rfl))
  f120 := Tryz.func293.trans (congrArg some (by kernel_rfl))
  f137 := Tryz.func209.trans (congrArg some (by kernel_rfl))
  f151 := Tryz.func261.trans (congrArg some (by kernel_rfl))
  f152 := Tryz.func299.trans (congrArg some (by kernel_rfl))
  f162 := Tryz.func164.trans (congrArg some (by kernel_rfl))
  f197 := Tryz.func206.trans (congrArg some (by kernel_rfl))
  f217 := Tryz.func255.trans (congrArg some (by kernel_rfl))
  f224 := Tryz.func331.trans (congrArg some (by kernel_rfl))
  f225 := Tryz.func330.trans (congrArg some (by kernel_rfl))
  f227 := Tryz.func216.trans (congrArg some (by kernel_rfl))
  f228 := Tryz.func260.trans (congrArg some (by kernel_rfl))
  f232 := Tryz.func219.trans (congrArg some (by kernel_rfl))
  f234 := Tryz.func220.trans (congrArg some (by kernel_rfl))
  f236 := Tryz.func221.trans (congrArg some (by kernel_rfl))
  f260 := Tryz.func254.trans (congrArg some (by kernel_rfl))
  f266 := Tryz.func294.trans (congrArg some (by kernel_rfl))
  f271 := Tryz.func253.trans (congrArg some (by kernel_rfl))
  t0 := Tryz.underlying0
  a0 := Tryz.isAgg0
  z0 := Tryz.sizeOf0
  v0 := Tryz.zeroValue0
  t3 := Tryz.underlying3
  a3 := Tryz.isAgg3
  z3 := Tryz.sizeOf3
  v3 := Tryz.zeroValue3
  t4 := Tryz.underlying4
  a4 := Tryz.isAgg4
  z4 := Tryz.sizeOf4
  v4 := Tryz.zeroValue4
  t5 := Tryz.underlying5
  a5 := Tryz.isAgg5
  z5 := Tryz.sizeOf5
  v5 := Tryz.zeroValue5
  t9 := Tryz.underlying9
  a9 := Tryz.isAgg9
  z9 := Tryz.sizeOf9
  v9 := Tryz.zeroValue9
  t21 := Tryz.underlying21
  a21 := Tryz.isAgg21
  z21 := Tryz.sizeOf21
  v21 := Tryz.zeroValue21
  t46 := Tryz.underlying102
  a46 := Tryz.isAgg102
  z46 := Tryz.sizeOf102
  v46 := Tryz.zeroValue102
  t105 := Tryz.underlying219
  a105 := Tryz.isAgg219
  z105 := Tryz.sizeOf219
  v105 := Tryz.zeroValue219
  t116 := Tryz.underlying227
  a116 := Tryz.isAgg227
  z116 := Tryz.sizeOf227
  t117 := Tryz.underlying228
  a117 := Tryz.isAgg228
  z117 := Tryz.sizeOf228
  v117 := Tryz.zeroValue228
  t119 := Tryz.underlying292
  a119 := Tryz.isAgg292
  z119 := Tryz.sizeOf292
  t124 := Tryz.underlying231
  a124 := Tryz.isAgg231
  z124 := Tryz.sizeOf231
  v124 := Tryz.zeroValue231
  t138 := Tryz.underlying294
  a138 := Tryz.isAgg294
  z138 := Tryz.sizeOf294
  v138 := Tryz.zeroValue294
  t139 := Tryz.underlying295
  a139 := Tryz.isAgg295
  z139 := Tryz.sizeOf295
  v139 := Tryz.zeroValue295
  g3 := by kernel_rfl
  g4 := by kernel_rfl }
open Go.RowKit in
theorem Tryz.strings_TrimRight_one (s : ByteArray) (c : UInt8) (hc : c.toNat < 128) (w : World) (hs : s.size ≤ 9223372036854775807) :
  Calls Tryz.prog 164 #[.string s, .string ⟨#[c]⟩] w fun e w' => e = .returned (.string ⟨(Lib.trimRightB s.data.toList c).toArray⟩) ∧ w' = w := Any.strings_TrimRight_one Tryz.lays162 s c hc w hs
def Tryz.lays160_ren : Go.Shelf.Ren := ⟨fun | 160 => 259 | 232 => 219 | 231 => 215 | 227 => 216 | 234 => 220 | 233 => 217 | 236 => 221 | 235 => 218 | 228 => 260 | 271 => 253 | 151 => 261 | 197 => 206 | 120 => 293 | 152 => 299 | 260 => 254 | 137 => 209 | 119 => 333 | 224 => 331 | 225 => 330 | 217 => 255 | 266 => 294 | n => n, fun | 9 => 9 | 4 => 4 | 3 => 3 | 5 => 5 | 117 => 228 | 116 => 227 | 0 => 0 | 124 => 231 | 21 => 21 | 105 => 219 | 46 => 102 | 119 => 292 | 139 => 295 | 138 => 294 | n => n, fun | 3 => 5 | 4 => 6 | n => n⟩
theorem Tryz.lays160 : Go.Proofs.Lays.n160 Tryz.prog Tryz.lays160_ren := {
  mixed := by kernel_rfl
  f119 := Tryz.func333.trans (congrArg some (by kernel_rfl))
  f120 := Tryz.func293.trans (congrArg some (by kernel_rfl))
  f137 := Tryz.func209.trans (congrArg some (by kernel_rfl))
  f151 := Tryz.func261.trans (congrArg some (by kernel_rfl))
  f152 := Tryz.func299.trans (congrArg some (by kernel_rfl))
  f160 := Tryz.func259.trans (congrArg some (by kernel_rfl))
  f197 := Tryz.func206.trans (congrArg some (by kernel_rfl))
  f217 := Tryz.func255.trans (congrArg some (by kernel_rfl))
  f224 := Tryz.func331.trans (congrArg some (by kernel_rfl))
  f225 := Tryz.func330.trans (congrArg some (by kernel_rfl))
  f227 := Tryz.func216.trans (congrArg some (by kernel_rfl))
  f228 := Tryz.func260.trans (congrArg some (by kernel_rfl))
  f231 := Tryz.func215.trans (congrArg some (by kernel_rfl))
  f232 := Tryz.func219.trans (congrArg some (by kernel_rfl))
  f233 := Tryz.func217.trans (congrArg some (by kernel_rfl))
  f234 := Tryz.func220.trans (congrArg some (by kernel_rfl))
  f235 := Tryz.func218.trans (congrArg some (by kernel_rfl))
  f236 := Tryz.func221.trans (congrArg some (by kernel_rfl))
  f260 := Tryz.func254.trans (congrArg some (by kernel_rfl))
  f266 := Tryz.func294.trans (congrArg some (by kernel_rfl))
  f271 := Tryz.func253.trans (congrArg some (by kernel_rfl))
  t0 := Tryz.underlying0
  a0 := Tryz.isAgg0
  z0 := Tryz.sizeOf0
  v0 := Tryz.zeroValue0
  t3 := Tryz.underlying3
  a3 := Tryz.isAgg3
  z3 := Tryz.sizeOf3
  v3 := Tryz.zeroValue3
  t4 := Tryz.underlying4
  a4 := Tryz.isAgg4
  z4 := Tryz.sizeOf4
  v4 := Tryz.zeroValue4
  t5 := Tryz.underlying5
  a5 := Tryz.isAgg5
  z5 := Tryz.sizeOf5
  v5 := Tryz.zeroValue5
  t9 := Tryz.underlying9
  a9 := Tryz.isAgg9
  z9 := Tryz.sizeOf9
  v9 := Tryz.zeroValue9
  t21 := Tryz.underlying21
  a21 := Tryz.isAgg21
  z21 := Tryz.sizeOf21
  v21 := Tryz.zeroValue21
  t46 := Tryz.underlying102
  a46 := Tryz.isAgg102
  z46 := Tryz.sizeOf102
  v46 := Tryz.zeroValue102
  t105 := Tryz.underlying219
  a105 := Tryz.isAgg219
  z105 := Tryz.sizeOf219
  v105 := Tryz.zeroValue219
  t116 := Tryz.underlying227
  a116 := Tryz.isAgg227
  z116 := Tryz.sizeOf227
  t117 := Tryz.underlying228
  a117 := Tryz.isAgg228
  z117 := Tryz.sizeOf228
  v117 := Tryz.zeroValue228
  t119 := Tryz.underlying292
  a119 := Tryz.isAgg292
  z119 := Tryz.sizeOf292
  t124 := Tryz.underlying231
  a124 := Tryz.isAgg231
  z124 := Tryz.sizeOf231
  v124 := Tryz.zeroValue231
  t138 := Tryz.underlying294
  a138 := Tryz.isAgg294
  z138 := Tryz.sizeOf294
  v138 := Tryz.zeroValue294
  t139 := Tryz.underlying295
  a139 := Tryz.isAgg295
  z139 := Tryz.sizeOf295
  v139 := Tryz.zeroValue295
  g3 := by kernel_rfl
  g4 := by kernel_rfl }
open Go.RowKit in
def Tryz.lays106_ren : Go.Shelf.Ren := ⟨fun | 106 => 113 | 213 => 180 | 265 => 235 | n => n, fun | 9 => 9 | 3 => 3 | n => n, fun | n => n⟩
theorem Tryz.lays106 : Go.Proofs.Lays.n106 Tryz.prog Tryz.lays106_ren := {
  mixed := by kernel_rfl
  f106 := Tryz.func113.trans (congrArg some (by kernel_rfl))
  f213 := Tryz.func180.trans (congrArg some (by kernel_rfl))
  f265 := Tryz.func235.trans (congrArg some (by kernel_rfl))
  t3 := Tryz.underlying3
  a3 := Tryz.isAgg3
  z3 := Tryz.sizeOf3
  v3 := Tryz.zeroValue3
  t9 := Tryz.underlying9
  a9 := Tryz.isAgg9
  z9 := Tryz.sizeOf9
  v9 := Tryz.zeroValue9 }
open Go.RowKit in
theorem Tryz.strings_Compare (a b : ByteArray) (w : World) :
  Calls Tryz.prog 113 #[.string a, .string b] w fun e w' => e = .returned (.int .i64 (Lib.compareBytes a.data.toList b.data.toList)) ∧ w' = w := Any.strings_Compare Tryz.lays106 a b w
def Tryz.lays137_ren : Go.Shelf.Ren := ⟨fun | 137 => 209 | 217 => 255 | 266 => 294 | n => n, fun | 9 => 9 | 5 => 5 | 3 => 3 | n => n, fun | n => n⟩
theorem Tryz.lays137 : Go.Proofs.Lays.n137 Tryz.prog Tryz.lays137_ren := {
  mixed := by kernel_rfl
  f137 := Tryz.func209.trans (congrArg some (by kernel_rfl))
  f217 := Tryz.func255.trans (congrArg some (by kernel_rfl))
  f266 := Tryz.func294.trans (congrArg some (by kernel_rfl))
  t3 := Tryz.underlying3
  a3 := Tryz.isAgg3
  z3 := Tryz.sizeOf3
  v3 := Tryz.zeroValue3
  t5 := Tryz.underlying5
  a5 := Tryz.isAgg5
  z5 := Tryz.sizeOf5
  v5 := Tryz.zeroValue5
  t9 := Tryz.underlying9
  a9 := Tryz.isAgg9
  z9 := Tryz.sizeOf9
  v9 := Tryz.zeroValue9 }
open Go.RowKit in
theorem Tryz.strings_IndexByte (s : ByteArray) (c : Int) (w : World) :
  Calls Tryz.prog 209 #[.string s, .int .u8 c] w fun e w' => e = .returned (.int .i64 (Lib.indexByte s.data.toList c.toNat.toUInt8)) ∧ w' = w := Any.strings_IndexByte Tryz.lays137 s c w
def Tryz.lays103_ren : Go.Shelf.Ren := ⟨fun | 103 => 93 | 210 => 158 | 206 => 207 | n => n, fun | 9 => 9 | 4 => 4 | 24 => 126 | 3 => 3 | n => n, fun | n => n⟩
theorem Tryz.lays103 : Go.Proofs.Lays.n103 Tryz.prog Tryz.lays103_ren := {
  mixed := by kernel_rfl
  f103 := Tryz.func93.trans (congrArg some (by kernel_rfl))
  f206 := Tryz.func207.trans (congrArg some (by kernel_rfl))
  f210 := Tryz.func158.trans (congrArg some (by kernel_rfl))
  t3 := Tryz.underlying3
  a3 := Tryz.isAgg3
  z3 := Tryz.sizeOf3
  v3 := Tryz.zeroValue3
  t4 := Tryz.underlying4
  a4 := Tryz.isAgg4
  z4 := Tryz.sizeOf4
  v4 := Tryz.zeroValue4
  t9 := Tryz.underlying9
  a9 := Tryz.isAgg9
  z9 := Tryz.sizeOf9
  v9 := Tryz.zeroValue9
  t24 := Tryz.underlying126
  a24 := Tryz.isAgg126
  z24 := Tryz.sizeOf126
  v24 := Tryz.zeroValue126 }
open Go.RowKit in
theorem Tryz.strings_CutPrefix (s p : ByteArray) (w : World) :
  Calls Tryz.prog 93 #[.string s, .string p] w fun e w' => e = .returned (.tuple #[.string ⟨(Lib.trimPrefix s.data.toList p.data.toList).toArray⟩, .bool (Lib.hasPrefix s.data.toList p.data.toList)]) ∧ w' = w := Any.strings_CutPrefix Tryz.lays103 s p w
def Tryz.lays104_ren : Go.Shelf.Ren := ⟨fun | 104 => 94 | 211 => 159 | 207 => 208 | n => n, fun | 9 => 9 | 4 => 4 | 24 => 126 | 3 => 3 | n => n, fun | n => n⟩
theorem Tryz.lays104 : Go.Proofs.Lays.n104 Tryz.prog Tryz.lays104_ren := {
  mixed := by kernel_rfl
  f104 := Tryz.func94.trans (congrArg some (by kernel_rfl))
  f207 := Tryz.func208.trans (congrArg some (by kernel_rfl))
  f211 := Tryz.func159.trans (congrArg some (by kernel_rfl))
  t3 := Tryz.underlying3
  a3 := Tryz.isAgg3
  z3 := Tryz.sizeOf3
  v3 := Tryz.zeroValue3
  t4 := Tryz.underlying4
  a4 := Tryz.isAgg4
  z4 := Tryz.sizeOf4
  v4 := Tryz.zeroValue4
  t9 := Tryz.underlying9
  a9 := Tryz.isAgg9
  z9 := Tryz.sizeOf9
  v9 := Tryz.zeroValue9
  t24 := Tryz.underlying126
  a24 := Tryz.isAgg126
  z24 := Tryz.sizeOf126
  v24 := Tryz.zeroValue126 }
open Go.RowKit in
theorem Tryz.strings_CutSuffix (s p : ByteArray) (w : World) (hs : s.size ≤ 9223372036854775807) :
  Calls Tryz.prog 94 #[.string s, .string p] w fun e w' => e = .returned (.tuple #[.string ⟨(Lib.trimSuffix s.data.toList p.data.toList).toArray⟩, .bool (Lib.hasSuffix s.data.toList p.data.toList)]) ∧ w' = w := Any.strings_CutSuffix Tryz.lays104 s p w hs
def Tryz.lays129_ren : Go.Shelf.Ren := ⟨fun | 129 => 182 | n => n, fun | 53 => 22 | 3 => 3 | 4 => 4 | 46 => 102 | 5 => 5 | 9 => 9 | n => n, fun | n => n⟩
theorem Tryz.lays129 : Go.Proofs.Lays.n129 Tryz.prog Tryz.lays129_ren := {
  mixed := by kernel_rfl
  f129 := Tryz.func182.trans (congrArg some (by kernel_rfl))
  t3 := Tryz.underlying3
  a3 := Tryz.isAgg3
  z3 := Tryz.sizeOf3
  v3 := Tryz.zeroValue3
  t4 := Tryz.underlying4
  a4 := Tryz.isAgg4
  z4 := Tryz.sizeOf4
  v4 := Tryz.zeroValue4
  t5 := Tryz.underlying5
  a5 := Tryz.isAgg5
  z5 := Tryz.sizeOf5
  v5 := Tryz.zeroValue5
  t9 := Tryz.underlying9
  a9 := Tryz.isAgg9
  z9 := Tryz.sizeOf9
  v9 := Tryz.zeroValue9
  t46 := Tryz.underlying102
  a46 := Tryz.isAgg102
  z46 := Tryz.sizeOf102
  v46 := Tryz.zeroValue102
  t53 := Tryz.underlying22
  a53 := Tryz.isAgg22
  z53 := Tryz.sizeOf22
  v53 := Tryz.zeroValue22 }
theorem Tryz.bits_Len64 (x : Int) (w : World) (h0 : 0 ≤ x) (h1 : x ≤ 18446744073709551615) :
  Calls Tryz.prog 182 #[.int .u64 x] w fun e w' => e = .returned (.int .i64 (Lib.bitLen x.toNat)) ∧ w' = w := Any.bits_Len64 Tryz.lays129 x w h0 h1
def Tryz.laysM171_ren : Go.Shelf.Ren := ⟨fun | 171 => 109 | 243 => 177 | 246 => 234 | 283 => 287 | 284 => 288 | 285 => 289 | 286 => 290 | 129 => 182 | 317 => 323 | 318 => 324 | 319 => 325 | 320 => 326 | 337 => 345 | 338 => 346 | n => n, fun | 3 => 3 | 9 => 9 | 2 => 2 | 4 => 4 | 171 => 287 | 0 => 0 | 53 => 22 | 37 => 142 | 5 => 5 | 173 => 289 | 212 => 316 | 51 => 166 | 20 => 20 | 213 => 317 | 46 => 102 | 232 => 341 | 233 => 342 | n => n, fun | 17 => 7 | 18 => 10 | 19 => 11 | n => n⟩
theorem Tryz.laysM171 : Go.Proofs.LaysM.n171 Tryz.prog Tryz.laysM171_ren := {
  mixed := by kernel_rfl
  f129 := Tryz.func182.trans (congrArg some (by kernel_rfl))
  f171 := Tryz.func109.trans (congrArg some (by kernel_rfl))
  f243 := Tryz.func177.trans (congrArg some (by kernel_rfl))
  f246 := Tryz.func234.trans (congrArg some (by kernel_rfl))
  f283 := Tryz.func287.trans (congrArg some (by kernel_rfl))
  f284 := Tryz.func288.trans (congrArg some (by kernel_rfl))
  f285 := Tryz.func289.trans (congrArg some (by kernel_rfl))
  f286 := Tryz.func290.trans (congrArg some (by kernel_rfl))
  f317 := Tryz.func323.trans (congrArg some (by kernel_rfl))
  f318 := Tryz.func324.trans (congrArg some (by kernel_rfl))
  f319 := Tryz.func325.trans (congrArg some (by kernel_rfl))
  f320 := Tryz.func326.trans (congrArg some (by kernel_rfl))
  f337 := Tryz.func345.trans (congrArg some (by kernel_rfl))
  f338 := Tryz.func346.trans (congrArg some (by kernel_rfl))
  t0 := Tryz.underlying0
  a0 := Tryz.isAgg0
  z0 := Tryz.sizeOf0
  v0 := Tryz.zeroValue0
  t2 := Tryz.underlying2
  a2 := Tryz.isAgg2
  z2 := Tryz.sizeOf2
  v2 := Tryz.zeroValue2
  t3 := Tryz.underlying3
  a3 := Tryz.isAgg3
  z3 := Tryz.sizeOf3
  v3 := Tryz.zeroValue3
  t4 := Tryz.underlying4
  a4 := Tryz.isAgg4
  z4 := Tryz.sizeOf4
  v4 := Tryz.zeroValue4
  t5 := Tryz.underlying5
  a5 := Tryz.isAgg5
  z5 := Tryz.sizeOf5
  v5 := Tryz.zeroValue5
  t9 := Tryz.underlying9
  a9 := Tryz.isAgg9
  z9 := Tryz.sizeOf9
  v9 := Tryz.zeroValue9
  t20 := Tryz.underlying20
  a20 := Tryz.isAgg20
  z20 := Tryz.sizeOf20
  v20 := Tryz.zeroValue20
  t37 := Tryz.underlying142
  a37 := Tryz.isAgg142
  z37 := Tryz.sizeOf142
  v37 := Tryz.zeroValue142
  t46 := Tryz.underlying102
  a46 := Tryz.isAgg102
  z46 := Tryz.sizeOf102
  v46 := Tryz.zeroValue102
  t51 := Tryz.underlying166
  a51 := Tryz.isAgg166
  z51 := Tryz.sizeOf166
  v51 := Tryz.zeroValue166
  t53 := Tryz.underlying22
  a53 := Tryz.isAgg22
  z53 := Tryz.sizeOf22
  v53 := Tryz.zeroValue22
  t171 := Tryz.underlying287
  a171 := Tryz.isAgg287
  z171 := Tryz.sizeOf287
  v171 := Tryz.zeroValue287
  t173 := Tryz.underlying289
  a173 := Tryz.isAgg289
  z173 := Tryz.sizeOf289
  v173 := Tryz.zeroValue289
  t212 := Tryz.underlying316
  a212 := Tryz.isAgg316
  z212 := Tryz.sizeOf316
  v212 := Tryz.zeroValue316
  t213 := Tryz.underlying317
  a213 := Tryz.isAgg317
  z213 := Tryz.sizeOf317
  t232 := Tryz.underlying341
  a232 := Tryz.isAgg341
  z232 := Tryz.sizeOf341
  v232 := Tryz.zeroValue341
  t233 := Tryz.underlying342
  a233 := Tryz.isAgg342
  z233 := Tryz.sizeOf342
  v233 := Tryz.zeroValue342
  g17 := by kernel_rfl
  g18 := by kernel_rfl
  g19 := by kernel_rfl
  i0 := by kernel_rfl
  i2 := by kernel_rfl
  i3 := by kernel_rfl
  i4 := by kernel_rfl
  i5 := by kernel_rfl
  i9 := by kernel_rfl
  i20 := by kernel_rfl
  i37 := by kernel_rfl
  i46 := by kernel_rfl
  i51 := by kernel_rfl
  i53 := by kernel_rfl
  i171 := by kernel_rfl
  i173 := by kernel_rfl
  i212 := by kernel_rfl
  i232 := by kernel_rfl
  i233 := by kernel_rfl
  m17 := by kernel_rfl
  m18 := by kernel_rfl
  m19 := by kernel_rfl }
open Go.RowKit Go.Sort Go.Lib in
theorem Tryz.strconv_Itoa (n : Int) (h0 : -9223372036854775808 ≤ n) (h1 : n ≤ 9223372036854775807) (w : World) (htab : Lib.TabIs Tryz.prog w "internal/strconv.uint64pow10" .u64 Lib.pow10Tab) :
  Calls Tryz.prog 109 #[.int .i64 n] w fun e w' => e = .returned (.string ⟨(Lib.itoa n).toArray⟩) ∧ ∃ k os, w' = grow (w.drewN k) os := Any.strconv_Itoa Tryz.laysM171 n h0 h1 w htab
def Tryz.laysC172_ren : Go.Shelf.Ren := ⟨fun | 172 => 257 | 244 => 297 | 245 => 263 | 247 => 329 | 279 => 302 | 280 => 303 | 281 => 304 | 282 => 305 | 287 => 262 | 316 => 334 | 171 => 109 | 205 => 335 | 321 => 300 | 322 => 301 | 243 => 177 | 246 => 234 | 283 => 287 | 284 => 288 | 285 => 289 | 286 => 290 | 129 => 182 | 317 => 323 | 318 => 324 | 319 => 325 | 320 => 326 | 337 => 345 | 338 => 346 | n => n, fun | 9 => 9 | 3 => 3 | 75 => 233 | 76 => 259 | 4 => 4 | 5 => 5 | 167 => 297 | 37 => 142 | 0 => 0 | 85 => 319 | 2 => 2 | 168 => 299 | 53 => 22 | 175 => 234 | 46 => 102 | 210 => 322 | 127 => 314 | 145 => 336 | 143 => 334 | 21 => 21 | 171 => 287 | 173 => 289 | 212 => 316 | 51 => 166 | 20 => 20 | 213 => 317 | 232 => 341 | 233 => 342 | 80 => 237 | n => n, fun | 15 => 8 | 16 => 9 | 17 => 7 | 18 => 10 | 19 => 11 | n => n⟩
theorem Tryz.laysC172 : Go.Proofs.LaysC.n172 Tryz.prog Tryz.laysC172_ren := {
  mixed := by kernel_rfl
  f129 := Tryz.func182.trans (congrArg some (by kernel_rfl))
  f171 := Tryz.func109.trans (congrArg some (by kernel_rfl))
  f172 := Tryz.func257.trans (congrArg some (by kernel_rfl))
  f205 := Tryz.func335.trans (congrArg some (by kernel_rfl))
  f243 := Tryz.func177.trans (congrArg some (by kernel_rfl))
  f244 := Tryz.func297.trans (congrArg some (by kernel_rfl))
  f245 := Tryz.func263.trans (congrArg some (by kernel_rfl))
  f246 := Tryz.func234.trans (congrArg some (by kernel_rfl))
  f247 := Tryz.func329.trans (congrArg some (by kernel_rfl))
  f279 := Tryz.func302.trans (congrArg some (by kernel_rfl))
  f280 := Tryz.func303.trans (congrArg some (by kernel_rfl))
  f281 := Tryz.func304.trans (congrArg some (by kernel_rfl))
  f282 := Tryz.func305.trans (congrArg some (by kernel_rfl))
  f283 := Tryz.func287.trans (congrArg some (by kernel_rfl))
  f284 := Tryz.func288.trans (congrArg some (by kernel_rfl))
  f285 := Tryz.func289.trans (congrArg some (by kernel_rfl))
  f286 := Tryz.func290.trans (congrArg some (by kernel_rfl))
  f287 := Tryz.func262.trans (congrArg some (by kernel_rfl))
  f316 := Tryz.func334.trans (congrArg some (by kernel_rfl))
  f317 := Tryz.func323.trans (congrArg some (by kernel_rfl))
  f318 := Tryz.func324.trans (congrArg some (by kernel_rfl))
  f319 := Tryz.func325.trans (congrArg some (by kernel_rfl))
  f320 := Tryz.func326.trans (congrArg some (by kernel_rfl))
  f321 := Tryz.func300.trans (congrArg some (by kernel_rfl))
  f322 := Tryz.func301.trans (congrArg some (by kernel_rfl))
  f337 := Tryz.func345.trans (congrArg some (by kernel_rfl))
  f338 := Tryz.func346.trans (congrArg some (by kernel_rfl))
  t0 := Tryz.underlying0
  a0 := Tryz.isAgg0
  z0 := Tryz.sizeOf0
  v0 := Tryz.zeroValue0
  t2 := Tryz.underlying2
  a2 := Tryz.isAgg2
  z2 := Tryz.sizeOf2
  v2 := Tryz.zeroValue2
  t3 := Tryz.underlying3
  a3 := Tryz.isAgg3
  z3 := Tryz.sizeOf3
  v3 := Tryz.zeroValue3
  t4 := Tryz.underlying4
  a4 := Tryz.isAgg4
  z4 := Tryz.sizeOf4
  v4 := Tryz.zeroValue4
  t5 := Tryz.underlying5
  a5 := Tryz.isAgg5
  z5 := Tryz.sizeOf5
  v5 := Tryz.zeroValue5
  t9 := Tryz.underlying9
  a9 := Tryz.isAgg9
  z9 := Tryz.sizeOf9
  v9 := Tryz.zeroValue9
  t20 := Tryz.underlying20
  a20 := Tryz.isAgg20
  z20 := Tryz.sizeOf20
  v20 := Tryz.zeroValue20
  t21 := Tryz.underlying21
  a21 := Tryz.isAgg21
  z21 := Tryz.sizeOf21
  v21 := Tryz.zeroValue21
  t37 := Tryz.underlying142
  a37 := Tryz.isAgg142
  z37 := Tryz.sizeOf142
  v37 := Tryz.zeroValue142
  t46 := Tryz.underlying102
  a46 := Tryz.isAgg102
  z46 := Tryz.sizeOf102
  v46 := Tryz.zeroValue102
  t51 := Tryz.underlying166
  a51 := Tryz.isAgg166
  z51 := Tryz.sizeOf166
  v51 := Tryz.zeroValue166
  t53 := Tryz.underlying22
  a53 := Tryz.isAgg22
  z53 := Tryz.sizeOf22
  v53 := Tryz.zeroValue22
  t75 := Tryz.underlying233
  a75 := Tryz.isAgg233
  z75 := Tryz.sizeOf233
  v75 := Tryz.zeroValue233
  t76 := Tryz.underlying259
  a76 := Tryz.isAgg259
  z76 := Tryz.sizeOf259
  v76 := Tryz.zeroValue259
  t85 := Tryz.underlying319
  a85 := Tryz.isAgg319
  z85 := Tryz.sizeOf319
  v85 := Tryz.zeroValue319
  t127 := Tryz.underlying314
  a127 := Tryz.isAgg314
  z127 := Tryz.sizeOf314
  v127 := Tryz.zeroValue314
  t143 := Tryz.underlying334
  a143 := Tryz.isAgg334
  z143 := Tryz.sizeOf334
  v143 := Tryz.zeroValue334
  t145 := Tryz.underlying336
  a145 := Tryz.isAgg336
  z145 := Tryz.sizeOf336
  v145 := Tryz.zeroValue336
  t167 := Tryz.underlying297
  a167 := Tryz.isAgg297
  z167 := Tryz.sizeOf297
  v167 := Tryz.zeroValue297
  t168 := Tryz.underlying299
  a168 := Tryz.isAgg299
  z168 := Tryz.sizeOf299
  v168 := Tryz.zeroValue299
  t171 := Tryz.underlying287
  a171 := Tryz.isAgg287
  z171 := Tryz.sizeOf287
  v171 := Tryz.zeroValue287
  t173 := Tryz.underlying289
  a173 := Tryz.isAgg289
  z173 := Tryz.sizeOf289
  v173 := Tryz.zeroValue289
  t175 := Tryz.underlying234
  a175 := Tryz.isAgg234
  z175 := Tryz.sizeOf234
  v175 := Tryz.zeroValue234
  t210 := Tryz.underlying322
  a210 := Tryz.isAgg322
  z210 := Tryz.sizeOf322
  v210 := Tryz.zeroValue322
  t212 := Tryz.underlying316
  a212 := Tryz.isAgg316
  z212 := Tryz.sizeOf316
  v212 := Tryz.zeroValue316
  t213 := Tryz.underlying317
  a213 := Tryz.isAgg317
  z213 := Tryz.sizeOf317
  t232 := Tryz.underlying341
  a232 := Tryz.isAgg341
  z232 := Tryz.sizeOf341
  v232 := Tryz.zeroValue341
  t233 := Tryz.underlying342
  a233 := Tryz.isAgg342
  z233 := Tryz.sizeOf342
  v233 := Tryz.zeroValue342
  g15 := by kernel_rfl
  g16 := by kernel_rfl
  g17 := by kernel_rfl
  g18 := by kernel_rfl
  g19 := by kernel_rfl
  t80 := Tryz.underlying237
  a80 := Tryz.isAgg237
  z80 := Tryz.sizeOf237
  v80 := Tryz.zeroValue237
  i0 := by kernel_rfl
  i2 := by kernel_rfl
  i3 := by kernel_rfl
  i4 := by kernel_rfl
  i5 := by kernel_rfl
  i9 := by kernel_rfl
  i20 := by kernel_rfl
  i21 := by kernel_rfl
  i37 := by kernel_rfl
  i46 := by kernel_rfl
  i51 := by kernel_rfl
  i53 := by kernel_rfl
  i75 := by kernel_rfl
  i76 := by kernel_rfl
  i80 := by kernel_rfl
  i85 := by kernel_rfl
  i127 := by kernel_rfl
  i143 := by kernel_rfl
  i145 := by kernel_rfl
  i167 := by kernel_rfl
  i168 := by kernel_rfl
  i171 := by kernel_rfl
  i173 := by kernel_rfl
  i175 := by kernel_rfl
  i210 := by kernel_rfl
  i212 := by kernel_rfl
  i232 := by kernel_rfl
  i233 := by kernel_rfl
  m15 := by kernel_rfl
  m16 := by kernel_rfl
  m17 := by kernel_rfl
  m18 := by kernel_rfl
  m19 := by kernel_rfl
  c0 := by kernel_rfl
  c2 := by kernel_rfl
  c3 := by kernel_rfl
  c4 := by kernel_rfl
  c5 := by kernel_rfl
  c9 := by kernel_rfl
  c20 := by kernel_rfl
  c21 := by kernel_rfl
  c37 := by kernel_rfl
  c46 := by kernel_rfl
  c51 := by kernel_rfl
  c53 := by kernel_rfl
  c75 := by kernel_rfl
  c76 := by kernel_rfl
  c80 := by kernel_rfl
  c85 := by kernel_rfl
  c127 := by kernel_rfl
  c143 := by kernel_rfl
  c145 := by kernel_rfl
  c167 := by kernel_rfl
  c168 := by kernel_rfl
  c171 := by kernel_rfl
  c173 := by kernel_rfl
  c175 := by kernel_rfl
  c210 := by kernel_rfl
  c212 := by kernel_rfl
  c213 := by kernel_rfl
  c232 := by kernel_rfl
  c233 := by kernel_rfl }
open Go.RowKit in
theorem Tryz.strconv_Atoi_ok (s : ByteArray) (hmax : s.size ≤ 9223372036854775806) (v : Int) (h : Lib.atoiAll s.data.toList = .ok v) (w : World) :
  Calls Tryz.prog 257 #[.string s] w fun e w' => e = .returned (.tuple #[.int .i64 v, .nilIface]) ∧ (w' = w ∨ ∃ t, w' = Lib.bytesWorld w 5 t) := Any.strconv_Atoi_ok Tryz.laysC172 s hmax v h w
open Go.RowKit in
theorem Tryz.strconv_Atoi_syntax (s : ByteArray) (hlim : s.size ≤ 281474976710656) (h : Lib.atoiAll s.data.toList = Lib.atoiAll []) (ev : Value) (w : World) (hv : w.cell? ⟨8, 0, none⟩ = some ev) (hev : ev = .nilIface ∨ ∃ te pe, ev = .iface te pe) :
  Calls Tryz.prog 257 #[.string s] w fun e w' => ∃ N, e = .returned (.tuple #[.int .i64 (0), .iface 299 (.pointer (some ⟨N, 0, none⟩))]) ∧ w.heap.size ≤ N ∧ w'.heap[N]? = some (.cells #[.string ⟨#[65, 116, 111, 105]⟩, .string s, ev] 322 (0, 0)) ∧ Below w.heap.size w w' := Any.strconv_Atoi_syntax Tryz.laysC172 s hlim (h.trans rfl) ev w hv hev
open Go.RowKit in
theorem Tryz.strconv_Atoi_range (s : ByteArray) (hlim : s.size ≤ 281474976710656) (h : Lib.atoiAll s.data.toList = .range) (ev : Value) (w : World) (hv : w.cell? ⟨9, 0, none⟩ = some ev) (hev : ev = .nilIface ∨ ∃ te pe, ev = .iface te pe) :
  Calls Tryz.prog 257 #[.string s] w fun e w' => ∃ N, e = .returned (.tuple #[.int .i64 (Lib.atoiSat s.data.toList), .iface 299 (.pointer (some ⟨N, 0, none⟩))]) ∧ w.heap.size ≤ N ∧ w'.heap[N]? = some (.cells #[.string ⟨#[65, 116, 111, 105]⟩, .string s, ev] 322 (0, 0)) ∧ Below w.heap.size w w' := Any.strconv_Atoi_range Tryz.laysC172 s hlim h ev w hv hev
def Tryz.laysPu14_ren : Go.Shelf.Ren := ⟨fun | 14 => 223 | 16 => 262 | 17 => 263 | 19 => 300 | 20 => 301 | 21 => 302 | 22 => 303 | 23 => 304 | 24 => 305 | 25 => 334 | 27 => 109 | 26 => 335 | 28 => 177 | 29 => 234 | 30 => 287 | 31 => 288 | 32 => 289 | 33 => 290 | 35 => 182 | 34 => 323 | 36 => 324 | 37 => 325 | 38 => 326 | 39 => 345 | 40 => 346 | n => n, fun | 9 => 9 | 3 => 3 | 22 => 22 | 24 => 233 | 25 => 234 | 4 => 4 | 34 => 297 | 5 => 5 | 36 => 102 | 37 => 142 | 0 => 0 | 39 => 299 | 21 => 21 | 44 => 322 | 47 => 314 | 50 => 336 | 48 => 334 | 2 => 2 | 52 => 287 | 55 => 289 | 59 => 316 | 60 => 166 | 20 => 20 | 61 => 317 | 65 => 341 | 66 => 342 | 67 => 237 | n => n, fun | 0 => 8 | 1 => 9 | 2 => 7 | 3 => 10 | 4 => 11 | n => n⟩
theorem Tryz.laysPu14 : Go.Proofs.LaysPu.n14 Tryz.prog Tryz.laysPu14_ren := {
  mixed := by kernel_rfl
  f14 := Tryz.func223.trans (congrArg some (by kernel_rfl))
  f16 := Tryz.func262.trans (congrArg some (by kernel_rfl))
  f17 := Tryz.func263.trans (congrArg some (by kernel_rfl))
  f19 := Tryz.func300.trans (congrArg some (by kernel_rfl))
  f20 := Tryz.func301.trans (congrArg some (by kernel_rfl))
  f21 := Tryz.func302.trans (congrArg some (by kernel_rfl))
  f22 := Tryz.func303.trans (congrArg some (by kernel_rfl))
  f23 := Tryz.func304.trans (congrArg some (by kernel_rfl))
  f24 := Tryz.func305.trans (congrArg some (by kernel_rfl))
  f25 := Tryz.func334.trans (congrArg some (by kernel_rfl))
  f26 := Tryz.func335.trans (congrArg some (by kernel_rfl))
  f27 := Tryz.func109.trans (congrArg some (by kernel_rfl))
  f28 := Tryz.func177.trans (congrArg some (by kernel_rfl))
  f29 := Tryz.func234.trans (congrArg some (by kernel_rfl))
  f30 := Tryz.func287.trans (congrArg some (by kernel_rfl))
  f31 := Tryz.func288.trans (congrArg some (by kernel_rfl))
  f32 := Tryz.func289.trans (congrArg some (by kernel_rfl))
  f33 := Tryz.func290.trans (congrArg some (by kernel_rfl))
  f34 := Tryz.func323.trans (congrArg some (by kernel_rfl))
  f35 := Tryz.func182.trans (congrArg some (by kernel_rfl))
  f36 := Tryz.func324.trans (congrArg some (by kernel_rfl))
  f37 := Tryz.func325.trans (congrArg some (by kernel_rfl))
  f38 := Tryz.func326.trans (congrArg some (by kernel_rfl))
  f39 := Tryz.func345.trans (congrArg some (by kernel_rfl))
  f40 := Tryz.func346.trans (congrArg some (by kernel_rfl))
  t0 := Tryz.underlying0
  a0 := Tryz.isAgg0
  z0 := Tryz.sizeOf0
  v0 := Tryz.zeroValue0
  i0 := by kernel_rfl
  t2 := Tryz.underlying2
  a2 := Tryz.isAgg2
  z2 := Tryz.sizeOf2
  v2 := Tryz.zeroValue2
  i2 := by kernel_rfl
  t3 := Tryz.underlying3
  a3 := Tryz.isAgg3
  z3 := Tryz.sizeOf3
  v3 := Tryz.zeroValue3
  i3 := by kernel_rfl
  t4 := Tryz.underlying4
  a4 := Tryz.isAgg4
  z4 := Tryz.sizeOf4
  v4 := Tryz.zeroValue4
  i4 := by kernel_rfl
  t5 := Tryz.underlying5
  a5 := Tryz.isAgg5
  z5 := Tryz.sizeOf5
  v5 := Tryz.zeroValue5
  i5 := by kernel_rfl
  t9 := Tryz.underlying9
  a9 := Tryz.isAgg9
  z9 := Tryz.sizeOf9
  v9 := Tryz.zeroValue9
  i9 := by kernel_rfl
  t20 := Tryz.underlying20
  a20 := Tryz.isAgg20
  z20 := Tryz.sizeOf20
  v20 := Tryz.zeroValue20
  i20 := by kernel_rfl
  t21 := Tryz.underlying21
  a21 := Tryz.isAgg21
  z21 := Tryz.sizeOf21
  v21 := Tryz.zeroValue21
  i21 := by kernel_rfl
  t22 := Tryz.underlying22
  a22 := Tryz.isAgg22
  z22 := Tryz.sizeOf22
  v22 := Tryz.zeroValue22
  i22 := by kernel_rfl
  t24 := Tryz.underlying233
  a24 := Tryz.isAgg233
  z24 := Tryz.sizeOf233
  v24 := Tryz.zeroValue233
  i24 := by kernel_rfl
  t25 := Tryz.underlying234
  a25 := Tryz.isAgg234
  z25 := Tryz.sizeOf234
  v25 := Tryz.zeroValue234
  i25 := by kernel_rfl
  t34 := Tryz.underlying297
  a34 := Tryz.isAgg297
  z34 := Tryz.sizeOf297
  v34 := Tryz.zeroValue297
  i34 := by kernel_rfl
  c34 := by kernel_rfl
  t36 := Tryz.underlying102
  a36 := Tryz.isAgg102
  z36 := Tryz.sizeOf102
  v36 := Tryz.zeroValue102
  i36 := by kernel_rfl
  t37 := Tryz.underlying142
  a37 := Tryz.isAgg142
  z37 := Tryz.sizeOf142
  v37 := Tryz.zeroValue142
  i37 := by kernel_rfl
  t39 := Tryz.underlying299
  a39 := Tryz.isAgg299
  z39 := Tryz.sizeOf299
  v39 := Tryz.zeroValue299
  i39 := by kernel_rfl
  t44 := Tryz.underlying322
  a44 := Tryz.isAgg322
  z44 := Tryz.sizeOf322
  v44 := Tryz.zeroValue322
  i44 := by kernel_rfl
  t47 := Tryz.underlying314
  a47 := Tryz.isAgg314
  z47 := Tryz.sizeOf314
  v47 := Tryz.zeroValue314
  i47 := by kernel_rfl
  t48 := Tryz.underlying334
  a48 := Tryz.isAgg334
  z48 := Tryz.sizeOf334
  v48 := Tryz.zeroValue334
  i48 := by kernel_rfl
  t50 := Tryz.underlying336
  a50 := Tryz.isAgg336
  z50 := Tryz.sizeOf336
  v50 := Tryz.zeroValue336
  i50 := by kernel_rfl
  t52 := Tryz.underlying287
  a52 := Tryz.isAgg287
  z52 := Tryz.sizeOf287
  v52 := Tryz.zeroValue287
  i52 := by kernel_rfl
  t55 := Tryz.underlying289
  a55 := Tryz.isAgg289
  z55 := Tryz.sizeOf289
  v55 := Tryz.zeroValue289
  i55 := by kernel_rfl
  t59 := Tryz.underlying316
  a59 := Tryz.isAgg316
  z59 := Tryz.sizeOf316
  v59 := Tryz.zeroValue316
  i59 := by kernel_rfl
  t60 := Tryz.underlying166
  a60 := Tryz.isAgg166
  z60 := Tryz.sizeOf166
  v60 := Tryz.zeroValue166
  i60 := by kernel_rfl
  t61 := Tryz.underlying317
  a61 := Tryz.isAgg317
  z61 := Tryz.sizeOf317
  t65 := Tryz.underlying341
  a65 := Tryz.isAgg341
  z65 := Tryz.sizeOf341
  v65 := Tryz.zeroValue341
  i65 := by kernel_rfl
  t66 := Tryz.underlying342
  a66 := Tryz.isAgg342
  z66 := Tryz.sizeOf342
  v66 := Tryz.zeroValue342
  i66 := by kernel_rfl
  t67 := Tryz.underlying237
  a67 := Tryz.isAgg237
  z67 := Tryz.sizeOf237
  v67 := Tryz.zeroValue237
  i67 := by kernel_rfl
  g0 := by kernel_rfl
  m0 := by kernel_rfl
  g1 := by kernel_rfl
  m1 := by kernel_rfl
  g2 := by kernel_rfl
  m2 := by kernel_rfl
  g3 := by kernel_rfl
  m3 := by kernel_rfl
  g4 := by kernel_rfl
  m4 := by kernel_rfl }
open Go.RowKit in
theorem Tryz.strconv_ParseUint_10_at64_ok (s : ByteArray) (hmax : s.size ≤ 9223372036854775806) (u : Nat) (h : Lib.parseUintB 64 s.data.toList = .ok u) (w : World) :
  Calls Tryz.prog 223 #[.string s, .int .i64 10, .int .i64 64] w fun e w' => e = .returned (.tuple #[.int .u64 u, .nilIface]) ∧ (w' = w ∨ w' = Lib.bytesWorld w 5 s) := Any.strconv_ParseUint_10_at64_ok Tryz.laysPu14 s hmax u h w
def Tryz.lays145_ren : Go.Shelf.Ren := ⟨fun | 145 => 212 | 220 => 258 | 219 => 298 | 217 => 255 | 225 => 330 | 224 => 331 | 267 => 332 | 266 => 294 | 314 => 347 | n => n, fun | 9 => 9 | 4 => 4 | 59 => 195 | 3 => 3 | 5 => 5 | 46 => 102 | 146 => 312 | 51 => 166 | n => n, fun | 1 => 2 | n => n⟩
theorem Tryz.lays145 : Go.Proofs.Lays.n145 Tryz.prog Tryz.lays145_ren := {
  mixed := by kernel_rfl
  f145 := Tryz.func212.trans (congrArg some (by kernel_rfl))
  f217 := Tryz.func255.trans (congrArg some (by kernel_rfl))
  f219 := Tryz.func298.trans (congrArg some (by kernel_rfl))
  f220 := Tryz.func258.trans (congrArg some (by kernel_rfl))
  f224 := Tryz.func331.trans (congrArg some (by kernel_rfl))
  f225 := Tryz.func330.trans (congrArg some (by kernel_rfl))
  f266 := Tryz.func294.trans (congrArg some (by kernel_rfl))
  f267 := Tryz.func332.trans (congrArg some (by kernel_rfl))
  f314 := Tryz.func347.trans (congrArg some (by kernel_rfl))
  t3 := Tryz.underlying3
  a3 := Tryz.isAgg3
  z3 := Tryz.sizeOf3
  v3 := Tryz.zeroValue3
  t4 := Tryz.underlying4
  a4 := Tryz.isAgg4
  z4 := Tryz.sizeOf4
  v4 := Tryz.zeroValue4
  t5 := Tryz.underlying5
  a5 := Tryz.isAgg5
  z5 := Tryz.sizeOf5
  v5 := Tryz.zeroValue5
  t9 := Tryz.underlying9
  a9 := Tryz.isAgg9
  z9 := Tryz.sizeOf9
  v9 := Tryz.zeroValue9
  t46 := Tryz.underlying102
  a46 := Tryz.isAgg102
  z46 := Tryz.sizeOf102
  v46 := Tryz.zeroValue102
  t51 := Tryz.underlying166
  a51 := Tryz.isAgg166
  z51 := Tryz.sizeOf166
  v51 := Tryz.zeroValue166
  t59 := Tryz.underlying195
  a59 := Tryz.isAgg195
  z59 := Tryz.sizeOf195
  v59 := Tryz.zeroValue195
  t146 := Tryz.underlying312
  a146 := Tryz.isAgg312
  z146 := Tryz.sizeOf312
  v146 := Tryz.zeroValue312
  g1 := by kernel_rfl }
open Go.RowKit Go.Lib in
theorem Tryz.strings_Cut (s sep : ByteArray) (m : Int) (w : World) (hs : s.size < 4294967281) (hm : w.cell? ⟨2, 0, none⟩ = some (.int .i64 m)) :
  Calls Tryz.prog 212 #[.string s, .string sep] w fun e w' => e = .returned (.tuple #[.string ⟨(Lib.cut s.data.toList sep.data.toList).1.toArray⟩, .string ⟨(Lib.cut s.data.toList sep.data.toList).2.1.toArray⟩, .bool (Lib.cut s.data.toList sep.data.toList).2.2]) ∧ ∃ n, w' = w.drewN n := Any.strings_Cut Tryz.lays145 s sep m w hs hm
def Tryz.lays272_ren : Go.Shelf.Ren := ⟨fun | 272 => 96 | 315 => 160 | n => n, fun | 9 => 9 | 40 => 125 | 4 => 4 | 3 => 3 | 0 => 0 | 21 => 21 | n => n, fun | n => n⟩
theorem Tryz.lays272 : Go.Proofs.Lays.n272 Tryz.prog Tryz.lays272_ren := {
  mixed := by kernel_rfl
  f272 := Tryz.func96.trans (congrArg some (by kernel_rfl))
  f315 := Tryz.func160.trans (congrArg some (by kernel_rfl))
  t0 := Tryz.underlying0
  a0 := Tryz.isAgg0
  z0 := Tryz.sizeOf0
  v0 := Tryz.zeroValue0
  t3 := Tryz.underlying3
  a3 := Tryz.isAgg3
  z3 := Tryz.sizeOf3
  v3 := Tryz.zeroValue3
  t4 := Tryz.underlying4
  a4 := Tryz.isAgg4
  z4 := Tryz.sizeOf4
  v4 := Tryz.zeroValue4
  t9 := Tryz.underlying9
  a9 := Tryz.isAgg9
  z9 := Tryz.sizeOf9
  v9 := Tryz.zeroValue9
  t21 := Tryz.underlying21
  a21 := Tryz.isAgg21
  z21 := Tryz.sizeOf21
  v21 := Tryz.zeroValue21
  t40 := Tryz.underlying125
  a40 := Tryz.isAgg125
  z40 := Tryz.sizeOf125
  v40 := Tryz.zeroValue125 }
open Go.RowKit Go.Lib in
theorem Tryz.strings_TrimLeftFunc (g : Nat) (lb : Array Value) (eg : ∀ args w, (callFunc g args).run Tryz.prog w = .ok (.enter g args) w) (p : Nat → Bool) (s : ByteArray) (w : World) (hp : PredAt Tryz.prog g lb encR p w) :
  Calls Tryz.prog 96 #[.string s, .func (.func g) #[] lb] w fun e w' => e = .returned (.string (Lib.trimLeftF p s)) ∧ Below w.heap.size w w' := Any.strings_TrimLeftFunc Tryz.lays272 g lb eg p s w hp
def Tryz.lays238_ren : Go.Shelf.Ren := ⟨fun | 238 => 157 | 273 => 205 | 197 => 206 | 271 => 253 | 260 => 254 | 120 => 293 | n => n, fun | 9 => 9 | 40 => 125 | 4 => 4 | 3 => 3 | 105 => 219 | 21 => 21 | 5 => 5 | 119 => 292 | 0 => 0 | 46 => 102 | 139 => 295 | 138 => 294 | n => n, fun | 3 => 5 | 4 => 6 | n => n⟩
theorem Tryz.lays238 : Go.Proofs.Lays.n238 Tryz.prog Tryz.lays238_ren := {
  mixed := by kernel_rfl
  f120 := Tryz.func293.trans (congrArg some (by kernel_rfl))
  f197 := Tryz.func206.trans (congrArg some (by kernel_rfl))
  f238 := Tryz.func157.trans (congrArg some (by kernel_rfl))
  f260 := Tryz.func254.trans (congrArg some (by kernel_rfl))
  f271 := Tryz.func253.trans (congrArg some (by kernel_rfl))
  f273 := Tryz.func205.trans (congrArg some (by kernel_rfl))
  t0 := Tryz.underlying0
  a0 := Tryz.isAgg0
  z0 := Tryz.sizeOf0
  v0 := Tryz.zeroValue0
  t3 := Tryz.underlying3
  a3 := Tryz.isAgg3
  z3 := Tryz.sizeOf3
  v3 := Tryz.zeroValue3
  t4 := Tryz.underlying4
  a4 := Tryz.isAgg4
  z4 := Tryz.sizeOf4
  v4 := Tryz.zeroValue4
  t5 := Tryz.underlying5
  a5 := Tryz.isAgg5
  z5 := Tryz.sizeOf5
  v5 := Tryz.zeroValue5
  t9 := Tryz.underlying9
  a9 := Tryz.isAgg9
  z9 := Tryz.sizeOf9
  v9 := Tryz.zeroValue9
  t21 := Tryz.underlying21
  a21 := Tryz.isAgg21
  z21 := Tryz.sizeOf21
  v21 := Tryz.zeroValue21
  t40 := Tryz.underlying125
  a40 := Tryz.isAgg125
  z40 := Tryz.sizeOf125
  v40 := Tryz.zeroValue125
  t46 := Tryz.underlying102
  a46 := Tryz.isAgg102
  z46 := Tryz.sizeOf102
  v46 := Tryz.zeroValue102
  t105 := Tryz.underlying219
  a105 := Tryz.isAgg219
  z105 := Tryz.sizeOf219
  v105 := Tryz.zeroValue219
  t119 := Tryz.underlying292
  a119 := Tryz.isAgg292
  z119 := Tryz.sizeOf292
  t138 := Tryz.underlying294
  a138 := Tryz.isAgg294
  z138 := Tryz.sizeOf294
  v138 := Tryz.zeroValue294
  t139 := Tryz.underlying295
  a139 := Tryz.isAgg295
  z139 := Tryz.sizeOf295
  v139 := Tryz.zeroValue295
  g3 := by kernel_rfl
  g4 := by kernel_rfl }
open Go.RowKit Go.Lib in
theorem Tryz.strings_TrimRightFunc (g : Nat) (lb : Array Value) (eg : ∀ args w, (callFunc g args).run Tryz.prog w = .ok (.enter g args) w) (p : Nat → Bool) (s : ByteArray) (w : World) (hs : s.size ≤ 9223372036854775807) (hT : Lib.Utf8Tabs 5 6 w) (hp : PredAt Tryz.prog g lb encR p w) :
  Calls Tryz.prog 157 #[.string s, .func (.func g) #[] lb] w fun e w' => e = .returned (.string (Lib.trimRightF p s)) ∧ Below w.heap.size w w' := Any.strings_TrimRightFunc Tryz.lays238 g lb eg p s w hs hT hp
def Tryz.lays237_ren : Go.Shelf.Ren := ⟨fun | 237 => 91 | 272 => 96 | 238 => 157 | 315 => 160 | 273 => 205 | 197 => 206 | 271 => 253 | 260 => 254 | 120 => 293 | n => n, fun | 9 => 9 | 40 => 125 | 4 => 4 | 3 => 3 | 105 => 219 | 21 => 21 | 0 => 0 | 5 => 5 | 119 => 292 | 46 => 102 | 139 => 295 | 138 => 294 | n => n, fun | 3 => 5 | 4 => 6 | n => n⟩
theorem Tryz.lays237 : Go.Proofs.Lays.n237 Tryz.prog Tryz.lays237_ren := {
  mixed := by kernel_rfl
  f120 := Tryz.func293.trans (congrArg some (by kernel_rfl))
  f197 := Tryz.func206.trans (congrArg some (by kernel_rfl))
  f237 := Tryz.func91.trans (congrArg some (by kernel_rfl))
  f238 := Tryz.func157.trans (congrArg some (by kernel_rfl))
  f260 := Tryz.func254.trans (congrArg some (by kernel_rfl))
  f271 := Tryz.func253.trans (congrArg some (by kernel_rfl))
  f272 := Tryz.func96.trans (congrArg some (by kernel_rfl))
  f273 := Tryz.func205.trans (congrArg some (by kernel_rfl))
  f315 := Tryz.func160.trans (congrArg some (by kernel_rfl))
  t0 := Tryz.underlying0
  a0 := Tryz.isAgg0
  z0 := Tryz.sizeOf0
  v0 := Tryz.zeroValue0
  t3 := Tryz.underlying3
  a3 := Tryz.isAgg3
  z3 := Tryz.sizeOf3
  v3 := Tryz.zeroValue3
  t4 := Tryz.underlying4
  a4 := Tryz.isAgg4
  z4 := Tryz.sizeOf4
  v4 := Tryz.zeroValue4
  t5 := Tryz.underlying5
  a5 := Tryz.isAgg5
  z5 := Tryz.sizeOf5
  v5 := Tryz.zeroValue5
  t9 := Tryz.underlying9
  a9 := Tryz.isAgg9
  z9 := Tryz.sizeOf9
  v9 := Tryz.zeroValue9
  t21 := Tryz.underlying21
  a21 := Tryz.isAgg21
  z21 := Tryz.sizeOf21
  v21 := Tryz.zeroValue21
  t40 := Tryz.underlying125
  a40 := Tryz.isAgg125
  z40 := Tryz.sizeOf125
  v40 := Tryz.zeroValue125
  t46 := Tryz.underlying102
  a46 := Tryz.isAgg102
  z46 := Tryz.sizeOf102
  v46 := Tryz.zeroValue102
  t105 := Tryz.underlying219
  a105 := Tryz.isAgg219
  z105 := Tryz.sizeOf219
  v105 := Tryz.zeroValue219
  t119 := Tryz.underlying292
  a119 := Tryz.isAgg292
  z119 := Tryz.sizeOf292
  t138 := Tryz.underlying294
  a138 := Tryz.isAgg294
  z138 := Tryz.sizeOf294
  v138 := Tryz.zeroValue294
  t139 := Tryz.underlying295
  a139 := Tryz.isAgg295
  z139 := Tryz.sizeOf295
  v139 := Tryz.zeroValue295
  g3 := by kernel_rfl
  g4 := by kernel_rfl }
open Go.RowKit Go.Lib in
theorem Tryz.strings_TrimFunc (g : Nat) (lb : Array Value) (eg : ∀ args w, (callFunc g args).run Tryz.prog w = .ok (.enter g args) w) (p : Nat → Bool) (s : ByteArray) (w : World) (hs : s.size ≤ 9223372036854775807) (hT : Lib.Utf8Tabs 5 6 w) (hp : PredAt Tryz.prog g lb encR p w) :
  Calls Tryz.prog 91 #[.string s, .func (.func g) #[] lb] w fun e w' => e = .returned (.string (Lib.trimF p s)) ∧ Below w.heap.size w w' := Any.strings_TrimFunc Tryz.lays237 g lb eg p s w hs hT hp
def Tryz.lays100_ren : Go.Shelf.Ren := ⟨fun | 100 => 222 | 207 => 208 | n => n, fun | 9 => 9 | 4 => 4 | 3 => 3 | n => n, fun | n => n⟩
theorem Tryz.lays100 : Go.Proofs.Lays.n100 Tryz.prog Tryz.lays100_ren := {
  mixed := by kernel_rfl
  f100 := Tryz.func222.trans (congrArg some (by kernel_rfl))
  f207 := Tryz.func208.trans (congrArg some (by kernel_rfl))
  t3 := Tryz.underlying3
  a3 := Tryz.isAgg3
  z3 := Tryz.sizeOf3
  v3 := Tryz.zeroValue3
  t4 := Tryz.underlying4
  a4 := Tryz.isAgg4
  z4 := Tryz.sizeOf4
  v4 := Tryz.zeroValue4
  t9 := Tryz.underlying9
  a9 := Tryz.isAgg9
  z9 := Tryz.sizeOf9
  v9 := Tryz.zeroValue9 }
open Go.RowKit Go.Lib in
theorem Tryz.strings_HasSuffix (s p : ByteArray) (w : World) (hs : s.size ≤ 9223372036854775807) :
  Calls Tryz.prog 222 #[.string s, .string p] w fun e w' => e = .returned (.bool (Lib.hasSuffix s.data.toList p.data.toList)) ∧ w' = w := Any.strings_HasSuffix Tryz.lays100 s p w hs
def Tryz.lays155_ren : Go.Shelf.Ren := ⟨fun | 155 => 210 | 154 => 256 | 138 => 295 | 165 => 283 | 143 => 296 | 166 => 284 | 197 => 206 | 169 => 286 | 195 => 327 | 218 => 328 | 240 => 321 | 241 => 322 | 219 => 298 | 260 => 254 | 276 => 343 | 277 => 344 | 217 => 255 | 225 => 330 | 224 => 331 | 267 => 332 | 266 => 294 | 314 => 347 | n => n, fun | 9 => 9 | 3 => 3 | 4 => 4 | 72 => 284 | 0 => 0 | 76 => 259 | 105 => 219 | 21 => 21 | 5 => 5 | 70 => 282 | 20 => 20 | 37 => 142 | 75 => 233 | 127 => 314 | 164 => 330 | 46 => 102 | 119 => 292 | 139 => 295 | 138 => 294 | 146 => 312 | 51 => 166 | 80 => 237 | n => n, fun | 1 => 2 | 3 => 5 | 4 => 6 | n => n⟩
theorem Tryz.lays155 : Go.Proofs.Lays.n155 Tryz.prog Tryz.lays155_ren := {
  mixed := by kernel_rfl
  f138 := Tryz.func295.trans (congrArg some (by kernel_rfl))
  f143 := Tryz.func296.trans (congrArg some (by kernel_rfl))
  f154 := Tryz.func256.trans (congrArg some (by kernel_rfl))
  f155 := Tryz.func210.trans (congrArg some (by kernel_rfl))
  f165 := Tryz.func283.trans (congrArg some (by kernel_rfl))
  f166 := Tryz.func284.trans (congrArg some (by kernel_rfl))
  f169 := Tryz.func286.trans (congrArg some (by kernel_rfl))
  f195 := Tryz.func327.trans (congrArg some (by kernel_rfl))
  f197 := Tryz.func206.trans (congrArg some (by kernel_rfl))
  f217 := Tryz.func255.trans (congrArg some (by kernel_rfl))
  f218 := Tryz.func328.trans (congrArg some (by kernel_rfl))
  f219 := Tryz.func298.trans (congrArg some (by kernel_rfl))
  f224 := Tryz.func331.trans (congrArg some (by kernel_rfl))
  f225 := Tryz.func330.trans (congrArg some (by kernel_rfl))
  f240 := Tryz.func321.trans (congrArg some (by kernel_rfl))
  f241 := Tryz.func322.trans (congrArg some (by kernel_rfl))
  f260 := Tryz.func254.trans (congrArg some (by kernel_rfl))
  f266 := Tryz.func294.trans (congrArg some (by kernel_rfl))
  f267 := Tryz.func332.trans (congrArg some (by kernel_rfl))
  f276 := Tryz.func343.trans (congrArg some (by kernel_rfl))
  f277 := Tryz.func344.trans (congrArg some (by kernel_rfl))
  f314 := Tryz.func347.trans (congrArg some (by kernel_rfl))
  t0 := Tryz.underlying0
  a0 := Tryz.isAgg0
  z0 := Tryz.sizeOf0
  v0 := Tryz.zeroValue0
  t3 := Tryz.underlying3
  a3 := Tryz.isAgg3
  z3 := Tryz.sizeOf3
  v3 := Tryz.zeroValue3
  t4 := Tryz.underlying4
  a4 := Tryz.isAgg4
  z4 := Tryz.sizeOf4
  v4 := Tryz.zeroValue4
  t5 := Tryz.underlying5
  a5 := Tryz.isAgg5
  z5 := Tryz.sizeOf5
  v5 := Tryz.zeroValue5
  t9 := Tryz.underlying9
  a9 := Tryz.isAgg9
  z9 := Tryz.sizeOf9
  v9 := Tryz.zeroValue9
  t20 := Tryz.underlying20
  a20 := Tryz.isAgg20
  z20 := Tryz.sizeOf20
  v20 := Tryz.zeroValue20
  t21 := Tryz.underlying21
  a21 := Tryz.isAgg21
  z21 := Tryz.sizeOf21
  v21 := Tryz.zeroValue21
  t37 := Tryz.underlying142
  a37 := Tryz.isAgg142
  z37 := Tryz.sizeOf142
  v37 := Tryz.zeroValue142
  t46 := Tryz.underlying102
  a46 := Tryz.isAgg102
  z46 := Tryz.sizeOf102
  v46 := Tryz.zeroValue102
  t51 := Tryz.underlying166
  a51 := Tryz.isAgg166
  z51 := Tryz.sizeOf166
  v51 := Tryz.zeroValue166
  t70 := Tryz.underlying282
  a70 := Tryz.isAgg282
  z70 := Tryz.sizeOf282
  v70 := Tryz.zeroValue282
  t72 := Tryz.underlying284
  a72 := Tryz.isAgg284
  z72 := Tryz.sizeOf284
  v72 := Tryz.zeroValue284
  t75 := Tryz.underlying233
  a75 := Tryz.isAgg233
  z75 := Tryz.sizeOf233
  v75 := Tryz.zeroValue233
  t76 := Tryz.underlying259
  a76 := Tryz.isAgg259
  z76 := Tryz.sizeOf259
  v76 := Tryz.zeroValue259
  t105 := Tryz.underlying219
  a105 := Tryz.isAgg219
  z105 := Tryz.sizeOf219
  v105 := Tryz.zeroValue219
  t119 := Tryz.underlying292
  a119 := Tryz.isAgg292
  z119 := Tryz.sizeOf292
  t127 := Tryz.underlying314
  a127 := Tryz.isAgg314
  z127 := Tryz.sizeOf314
  v127 := Tryz.zeroValue314
  t138 := Tryz.underlying294
  a138 := Tryz.isAgg294
  z138 := Tryz.sizeOf294
  v138 := Tryz.zeroValue294
  t139 := Tryz.underlying295
  a139 := Tryz.isAgg295
  z139 := Tryz.sizeOf295
  v139 := Tryz.zeroValue295
  t146 := Tryz.underlying312
  a146 := Tryz.isAgg312
  z146 := Tryz.sizeOf312
  v146 := Tryz.zeroValue312
  t164 := Tryz.underlying330
  a164 := Tryz.isAgg330
  z164 := Tryz.sizeOf330
  v164 := Tryz.zeroValue330
  g1 := by kernel_rfl
  g3 := by kernel_rfl
  g4 := by kernel_rfl }
theorem Tryz.Builder_Extra_155 : Builder.Extra Tryz.prog Tryz.lays155_ren := {
  sizeBuilder := by kernel_rfl
  liesBuilder := by kernel_rfl
  t5 := Tryz.underlying5
  a5 := Tryz.isAgg5
  z5 := Tryz.sizeOf5
  v5 := Tryz.zeroValue5
  infoByte := by kernel_rfl
  cellsByte := by kernel_rfl
  sizeByte := by kernel_rfl
  neB5 := by decide }
open Go.RowKit Go.Lib in
theorem Tryz.strings_ReplaceAll (s old new : ByteArray) (m : Int) (w : World) (hs : s.size < 4294967281) (hm : w.cell? ⟨2, 0, none⟩ = some (.int .i64 m)) (h1 : 1 ≤ old.size) (hlen : s.size + Lib.countB s old * new.size ≤ 140737488355328) :
  Calls Tryz.prog 210 #[.string s, .string old, .string new] w fun e w' =>
   e = .returned (.string ⟨(Lib.replaceAll s.data.toList old.data.toList new.data.toList).toArray⟩) ∧ Below w.heap.size w w' := Any.strings_ReplaceAll Tryz.lays155 Tryz.Builder_Extra_155 s old new m w hs hm h1 hlen
def Tryz.lays264_ren : Go.Shelf.Ren := ⟨fun | 264 => 245 | n => n, fun | 53 => 22 | 46 => 102 | n => n, fun | n => n⟩
theorem Tryz.lays264 : Go.Proofs.Lays.n264 Tryz.prog Tryz.lays264_ren := {
  mixed := by kernel_rfl
  f264 := Tryz.func245.trans (congrArg some (by kernel_rfl))
  t46 := Tryz.underlying102
  a46 := Tryz.isAgg102
  z46 := Tryz.sizeOf102
  v46 := Tryz.zeroValue102
  t53 := Tryz.underlying22
  a53 := Tryz.isAgg22
  z53 := Tryz.sizeOf22
  v53 := Tryz.zeroValue22 }
open Go.RowKit Go.Lib in
theorem Tryz.bits_Mul64 (x y : Nat) (hx : x < 18446744073709551616) (hy : y < 18446744073709551616) (w : World) :
  Calls Tryz.prog 245 #[.int .u64 x, .int .u64 y] w fun e w' => e = .returned (.tuple #[.int .u64 ((x * y / 18446744073709551616 : Nat) : Int), .int .u64 ((x * y % 18446744073709551616 : Nat) : Int)]) ∧ w' = w := Any.bits_Mul64 Tryz.lays264 x y hx hy w
def Tryz.lays105_ren : Go.Shelf.Ren := ⟨fun | 105 => 232 | 212 => 281 | 99 => 282 | 165 => 283 | 166 => 284 | 170 => 285 | 169 => 286 | 263 => 320 | 264 => 245 | 206 => 207 | 240 => 321 | 241 => 322 | 276 => 343 | 277 => 344 | n => n, fun | 9 => 9 | 3 => 3 | 4 => 4 | 20 => 20 | 0 => 0 | 46 => 102 | 109 => 280 | 5 => 5 | 72 => 284 | 76 => 259 | 51 => 166 | 146 => 312 | 53 => 22 | 148 => 197 | 70 => 282 | 37 => 142 | 75 => 233 | 127 => 314 | 164 => 330 | 80 => 237 | n => n, fun | n => n⟩
theorem Tryz.lays105 : Go.Proofs.Lays.n105 Tryz.prog Tryz.lays105_ren := {
  mixed := by kernel_rfl
  f99 := Tryz.func282.trans (congrArg some (by kernel_rfl))
  f105 := Tryz.func232.trans (congrArg some (by kernel_rfl))
  f165 := Tryz.func283.trans (congrArg some (by kernel_rfl))
  f166 := Tryz.func284.trans (congrArg some (by kernel_rfl))
  f169 := Tryz.func286.trans (congrArg some (by kernel_rfl))
  f170 := Tryz.func285.trans (congrArg some (by kernel_rfl))
  f206 := Tryz.func207.trans (congrArg some (by kernel_rfl))
  f212 := Tryz.func281.trans (congrArg some (by kernel_rfl))
  f240 := Tryz.func321.trans (congrArg some (by kernel_rfl))
  f241 := Tryz.func322.trans (congrArg some (by kernel_rfl))
  f263 := Tryz.func320.trans (congrArg some (by kernel_rfl))
  f264 := Tryz.func245.trans (congrArg some (by kernel_rfl))
  f276 := Tryz.func343.trans (congrArg some (by kernel_rfl))
  f277 := Tryz.func344.trans (congrArg some (by kernel_rfl))
  t0 := Tryz.underlying0
  a0 := Tryz.isAgg0
  z0 := Tryz.sizeOf0
  v0 := Tryz.zeroValue0
  t3 := Tryz.underlying3
  a3 := Tryz.isAgg3
  z3 := Tryz.sizeOf3
  v3 := Tryz.zeroValue3
  t4 := Tryz.underlying4
  a4 := Tryz.isAgg4
  z4 := Tryz.sizeOf4
  v4 := Tryz.zeroValue4
  t5 := Tryz.underlying5
  a5 := Tryz.isAgg5
  z5 := Tryz.sizeOf5
  v5 := Tryz.zeroValue5
  t9 := Tryz.underlying9
  a9 := Tryz.isAgg9
  z9 := Tryz.sizeOf9
  v9 := Tryz.zeroValue9
  t20 := Tryz.underlying20
  a20 := Tryz.isAgg20
  z20 := Tryz.sizeOf20
  v20 := Tryz.zeroValue20
  t37 := Tryz.underlying142
  a37 := Tryz.isAgg142
  z37 := Tryz.sizeOf142
  v37 := Tryz.zeroValue142
  t46 := Tryz.underlying102
  a46 := Tryz.isAgg102
  z46 := Tryz.sizeOf102
  v46 := Tryz.zeroValue102
  t51 := Tryz.underlying166
  a51 := Tryz.isAgg166
  z51 := Tryz.sizeOf166
  v51 := Tryz.zeroValue166
  t53 := Tryz.underlying22
  a53 := Tryz.isAgg22
  z53 := Tryz.sizeOf22
  v53 := Tryz.zeroValue22
  t70 := Tryz.underlying282
  a70 := Tryz.isAgg282
  z70 := Tryz.sizeOf282
  v70 := Tryz.zeroValue282
  t72 := Tryz.underlying284
  a72 := Tryz.isAgg284
  z72 := Tryz.sizeOf284
  v72 := Tryz.zeroValue284
  t75 := Tryz.underlying233
  a75 := Tryz.isAgg233
  z75 := Tryz.sizeOf233
  v75 := Tryz.zeroValue233
  t76 := Tryz.underlying259
  a76 := Tryz.isAgg259
  z76 := Tryz.sizeOf259
  v76 := Tryz.zeroValue259
  t109 := Tryz.underlying280
  a109 := Tryz.isAgg280
  z109 := Tryz.sizeOf280
  v109 := Tryz.zeroValue280
  t127 := Tryz.underlying314
  a127 := Tryz.isAgg314
  z127 := Tryz.sizeOf314
  v127 := Tryz.zeroValue314
  t146 := Tryz.underlying312
  a146 := Tryz.isAgg312
  z146 := Tryz.sizeOf312
  v146 := Tryz.zeroValue312
  t148 := Tryz.underlying197
  a148 := Tryz.isAgg197
  z148 := Tryz.sizeOf197
  v148 := Tryz.zeroValue197
  t164 := Tryz.underlying330
  a164 := Tryz.isAgg330
  z164 := Tryz.sizeOf330
  v164 := Tryz.zeroValue330 }
theorem Tryz.Builder_Extra_105 : Builder.Extra Tryz.prog Tryz.lays105_ren := {
  sizeBuilder := by kernel_rfl
  liesBuilder := by kernel_rfl
  t5 := Tryz.underlying5
  a5 := Tryz.isAgg5
  z5 := Tryz.sizeOf5
  v5 := Tryz.zeroValue5
  infoByte := by kernel_rfl
  cellsByte := by kernel_rfl
  sizeByte := by kernel_rfl
  neB5 := by decide }
open Go.RowKit Go.Lib in
theorem Tryz.strings_Repeat_main (s : ByteArray) (c : Nat) (w : World) (hc2 : 2 ≤ c) (hc : c ≤ 9223372036854775807) (hlen : s.size * c ≤ 140737488355328) (h0 : 0 < s.size) :
  Calls Tryz.prog 232 #[.string s, .int .i64 c] w fun e w' => e = .returned (.string ⟨(Lib.repeatL s.data.toList c).toArray⟩) ∧ Below w.heap.size w w' := Any.strings_Repeat_main Tryz.lays105 Tryz.Builder_Extra_105 s c w hc2 hc hlen h0
open Go.RowKit Go.Lib in
theorem Tryz.strings_Repeat_zero (s : ByteArray) (w : World) :
  Calls Tryz.prog 232 #[.string s, .int .i64 0] w fun e w' => e = .returned (.string ⟨#[]⟩) ∧ w' = w := Any.strings_Repeat_zero Tryz.lays105 s w
open Go.RowKit Go.Lib in
theorem Tryz.strings_Repeat_one (s : ByteArray) (w : World) :
  Calls Tryz.prog 232 #[.string s, .int .i64 1] w fun e w' => e = .returned (.string s) ∧ w' = w := Any.strings_Repeat_one Tryz.lays105 s w
end Go.Proofs
