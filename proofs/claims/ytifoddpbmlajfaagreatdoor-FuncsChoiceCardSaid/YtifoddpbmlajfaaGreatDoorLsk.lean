/-
  DERIVED: THE SHELF's CONTRACTS AT THIS DUMP, IN PLAIN WORDS (tools/lay-plain.mjs out of 'TryzPick.lean', which tools/lay-shelf.mjs wrote): THE SAME DECLARATIONS UNDER THE SAME NAMES: 'import', 'namespace', 'open', 'def', 'theorem' AND NOTHING ELSE: no command of the shelf's: FOR A HAND-IN. Each laying: the table of numbers ('.._ren') and one theorem, a field a fact of the dump's own or the kernel's comparison; each contract: ONE APPLICATION.
-/
import Derived.Shelf.Strings.Builder1
import Derived.Shelf.Strings.Builder2
import Derived.Shelf.Strings.Trim
import Derived.Shelf.Small.Utf8
import Derived.Shelf.Small.Bits
import Derived.Shelf.Small.Strs
import Derived.Shelf.Small.Wraps
import Derived.Shelf.Strings.BuilderF
import Derived.Shelf.Strings.BuilderK
import Derived.Shelf.Utf8.RuneCount
import Derived.Shelf.Strings.Builder2Cap
import Derived.Shelf.Strconv.Atoi
import Derived.Shelf.Strconv.Itoa0
import Derived.Shelf.Strconv.Itoa1
import Derived.Shelf.LaysM
import Derived.Shelf.Strconv.Itoa2
import Derived.Shelf.Strconv.Itoa3
import Derived.Shelf.Strconv.AtoiErrFast
import Derived.Shelf.Strconv.ParseIntEmpty
import Derived.Shelf.Strconv.AtoiFail
import Derived.Shelf.Strconv.Clone
import Derived.Shelf.Strconv.SyntaxError
import Derived.Shelf.LaysC
import Derived.Shelf.Strconv.ToError
import Derived.Shelf.Strconv.Lower
import Derived.Shelf.Strconv.ParseUint10
import Derived.Shelf.Strconv.ParseUint10Empty
import Derived.Shelf.Strconv.ParseUint10Any
import Derived.Shelf.Strconv.ParseInt10
import Derived.Shelf.Strconv.AtoiLong
import Derived.Shelf.Strconv.AtoiInnerAll
import Derived.Shelf.Strconv.RangeError
import Derived.Shelf.Strconv.ToErrorRange
import Derived.Shelf.Strconv.AtoiAll
import Derived.Shelf.Strconv.ParseUintEmpty
import Derived.Shelf.Strconv.ParseUint10b64
import Derived.Shelf.Strconv.ParseUint10b32
import Derived.Shelf.Strconv.ParseUint10b16
import Derived.Shelf.Strconv.ParseUint10b8
import Derived.Ground.MpProg
import Derived.Shelf.Pu.ParseUintPublic10
import Derived.Shelf.Strings.Search1
import Derived.Shelf.Strings.Search2
import Derived.Shelf.Strings.Search3
import Derived.Shelf.Strings.Cut
import Derived.Shelf.Strings.Count
import Derived.Shelf.Strings.Shaped
import Derived.Shelf.GgClosure.StringsIndexFunc
import Derived.Shelf.GgClosure.StringsTrimFunc
import Derived.Shelf.Strings.Prefix
import Derived.Shelf.Strings.Split
import Derived.Shelf.Strings.Replace
import Derived.Shelf.Strings.SplitShaped
import Derived.Shelf.Unicode.Decode
import Derived.Shelf.Strings.Runes
import Derived.Shelf.Strings.RuneCount
import Derived.Shelf.Strings.AsciiSet
import Derived.Shelf.Strings.Explode
import Derived.Shelf.Bits.Mul64
import Derived.Shelf.Strings.Repeat
import Derived.Shelf.Unicode.DecodeSlow
import Derived.Shelf.Unicode.DecodeAny
import Derived.Shelf.Unicode.DecodeLast
import Derived.Shelf.Strings.BuilderCap
import Derived.Shelf.Slices.Turned
import Derived.Ground.Names2Prog
import Derived.Shelf.Slices.SearchI
import Derived.Ground.SlgnProg
import Derived.Shelf.SlicesE.Clone
import Derived.Test.YtifoddpbmlajfaaGreatDoorProg
namespace Go.Proofs
open Go.Shelf
open Go.RowKit in
open Go.RowKit in
open Go.RowKit in
open Go.RowKit in
open Go.RowKit in
open Go.RowKit in
open Go.RowKit in
open Go.RowKit Go.Sort Go.Lib in
open Go.RowKit in
open Go.RowKit in
open Go.RowKit in
open Go.RowKit in
open Go.RowKit Go.Lib in
open Go.RowKit Go.Lib in
open Go.RowKit Go.Lib in
open Go.RowKit Go.Lib in
open Go.RowKit Go.Lib in
def Tryz.lays155_ren : Go.Shelf.Ren := ⟨fun | 155 => 142 | 154 => 200 | 138 => 259 | 165 => 255 | 143 => 260 | 166 => 188 | 197 => 199 | 169 => 189 | 195 => 136 | 218 => 328 | 240 => 241 | 241 => 326 | 219 => 329 | 260 => 258 | 276 => 301 | 277 => 365 | 217 => 332 | 225 => 366 | 224 => 367 | 267 => 368 | 266 => 370 | 314 => 383 | n => n, fun | 9 => 9 | 3 => 3 | 4 => 4 | 72 => 235 | 0 => 0 | 76 => 237 | 105 => 253 | 21 => 21 | 5 => 5 | 70 => 233 | 20 => 20 | 37 => 232 | 75 => 226 | 127 => 289 | 164 => 338 | 46 => 107 | 119 => 374 | 139 => 377 | 138 => 376 | 146 => 372 | 51 => 88 | 80 => 239 | n => n, fun | 1 => 9 | 3 => 5 | 4 => 6 | n => n⟩
theorem Tryz.lays155 : Go.Proofs.Lays.n155 Tryz.prog Tryz.lays155_ren := {
  mixed := by kernel_rfl
  f138 := Tryz.func259.trans (congrArg some (by kernel_rfl))
  f143 := Tryz.func260.trans (congrArg some (by kernel_rfl))
  f154 := Tryz.func200.trans (congrArg some (by kernel_rfl))
  f155 := Tryz.func142.trans (congrArg some (by kernel_rfl))
  f165 := Tryz.func255.trans (congrArg some (by kernel_rfl))
  f166 := Tryz.func188.trans (congrArg some (by kernel_rfl))
  f169 := Tryz.func189.trans (congrArg some (by kernel_rfl))
  f195 := Tryz.func136.trans (congrArg some (by kernel_rfl))
  f197 := Tryz.func199.trans (congrArg some (by kernel_rfl))
  f217 := Tryz.func332.trans (congrArg some (by kernel_rfl))
  f218 := Tryz.func328.trans (congrArg some (by kernel_rfl))
  f219 := Tryz.func329.trans (congrArg some (by kernel_rfl))
  f224 := Tryz.func367.trans (congrArg some (by kernel_rfl))
  f225 := Tryz.func366.trans (congrArg some (by kernel_rfl))
  f240 := Tryz.func241.trans (congrArg some (by kernel_rfl))
  f241 := Tryz.func326.trans (congrArg some (by kernel_rfl))
  f260 := Tryz.func258.trans (congrArg some (by kernel_rfl))
  f266 := Tryz.func370.trans (congrArg some (by kernel_rfl))
  f267 := Tryz.func368.trans (congrArg some (by kernel_rfl))
  f276 := Tryz.func301.trans (congrArg some (by kernel_rfl))
  f277 := Tryz.func365.trans (congrArg some (by kernel_rfl))
  f314 := Tryz.func383.trans (congrArg some (by kernel_rfl))
  t0 := Tryz.underlying0
  a0 := Tryz.isAgg0
  z0 := Tryz.sizeOf0
  v0 := Tryz.zeroValue0
  t3 := Tryz.underlying3
  a3 := Tryz.isAgg3
  z3 := Tryz.sizeOf3
  v3 := Tryz.zeroValue3
  t4 := Tryz.underlying4
  a4 := Tryz.isAgg4
  z4 := Tryz.sizeOf4
  v4 := Tryz.zeroValue4
  t5 := Tryz.underlying5
  a5 := Tryz.isAgg5
  z5 := Tryz.sizeOf5
  v5 := Tryz.zeroValue5
  t9 := Tryz.underlying9
  a9 := Tryz.isAgg9
  z9 := Tryz.sizeOf9
  v9 := Tryz.zeroValue9
  t20 := Tryz.underlying20
  a20 := Tryz.isAgg20
  z20 := Tryz.sizeOf20
  v20 := Tryz.zeroValue20
  t21 := Tryz.underlying21
  a21 := Tryz.isAgg21
  z21 := Tryz.sizeOf21
  v21 := Tryz.zeroValue21
  t37 := Tryz.underlying232
  a37 := Tryz.isAgg232
  z37 := Tryz.sizeOf232
  v37 := Tryz.zeroValue232
  t46 := Tryz.underlying107
  a46 := Tryz.isAgg107
  z46 := Tryz.sizeOf107
  v46 := Tryz.zeroValue107
  t51 := Tryz.underlying88
  a51 := Tryz.isAgg88
  z51 := Tryz.sizeOf88
  v51 := Tryz.zeroValue88
  t70 := Tryz.underlying233
  a70 := Tryz.isAgg233
  z70 := Tryz.sizeOf233
  v70 := Tryz.zeroValue233
  t72 := Tryz.underlying235
  a72 := Tryz.isAgg235
  z72 := Tryz.sizeOf235
  v72 := Tryz.zeroValue235
  t75 := Tryz.underlying226
  a75 := Tryz.isAgg226
  z75 := Tryz.sizeOf226
  v75 := Tryz.zeroValue226
  t76 := Tryz.underlying237
  a76 := Tryz.isAgg237
  z76 := Tryz.sizeOf237
  v76 := Tryz.zeroValue237
  t105 := Tryz.underlying253
  a105 := Tryz.isAgg253
  z105 := Tryz.sizeOf253
  v105 := Tryz.zeroValue253
  t119 := Tryz.underlying374
  a119 := Tryz.isAgg374
  z119 := Tryz.sizeOf374
  t127 := Tryz.underlying289
  a127 := Tryz.isAgg289
  z127 := Tryz.sizeOf289
  v127 := Tryz.zeroValue289
  t138 := Tryz.underlying376
  a138 := Tryz.isAgg376
  z138 := Tryz.sizeOf376
  v138 := Tryz.zeroValue376
  t139 := Tryz.underlying377
  a139 := Tryz.isAgg377
  z139 := Tryz.sizeOf377
  v139 := Tryz.zeroValue377
  t146 := Tryz.underlying372
  a146 := Tryz.isAgg372
  z146 := Tryz.sizeOf372
  v146 := Tryz.zeroValue372
  t164 := Tryz.underlying338
  a164 := Tryz.isAgg338
  z164 := Tryz.sizeOf338
  v164 := Tryz.zeroValue338
  g1 := by kernel_rfl
  g3 := by kernel_rfl
  g4 := by kernel_rfl }
theorem Tryz.Builder_Extra_155 : Builder.Extra Tryz.prog Tryz.lays155_ren := {
  sizeBuilder := by kernel_rfl
  liesBuilder := by kernel_rfl
  t5 := Tryz.underlying5
  a5 := Tryz.isAgg5
  z5 := Tryz.sizeOf5
  v5 := Tryz.zeroValue5
  infoByte := by kernel_rfl
  cellsByte := by kernel_rfl
  sizeByte := by kernel_rfl
  neB5 := by decide }
open Go.RowKit Go.Lib in
theorem Tryz.strings_ReplaceAll (s old new : ByteArray) (m : Int) (w : World) (hs : s.size < 4294967281) (hm : w.cell? ⟨9, 0, none⟩ = some (.int .i64 m)) (h1 : 1 ≤ old.size) (hlen : s.size + Lib.countB s old * new.size ≤ 140737488355328) :
    Calls Tryz.prog 142 #[.string s, .string old, .string new] w fun e w' =>
      e = .returned (.string ⟨(Lib.replaceAll s.data.toList old.data.toList new.data.toList).toArray⟩) ∧ Below w.heap.size w w' := Any.strings_ReplaceAll Tryz.lays155 Tryz.Builder_Extra_155 s old new m w hs hm h1 hlen
open Go.RowKit Go.Lib in
def Tryz.lays105_ren : Go.Shelf.Ren := ⟨fun | 105 => 196 | 212 => 256 | 99 => 197 | 165 => 255 | 166 => 188 | 170 => 187 | 169 => 189 | 263 => 327 | 264 => 150 | 206 => 257 | 240 => 241 | 241 => 326 | 276 => 301 | 277 => 365 | n => n, fun | 9 => 9 | 3 => 3 | 4 => 4 | 20 => 20 | 0 => 0 | 46 => 107 | 109 => 309 | 5 => 5 | 72 => 235 | 76 => 237 | 51 => 88 | 146 => 372 | 53 => 22 | 148 => 203 | 70 => 233 | 37 => 232 | 75 => 226 | 127 => 289 | 164 => 338 | 80 => 239 | n => n, fun | n => n⟩
theorem Tryz.lays105 : Go.Proofs.Lays.n105 Tryz.prog Tryz.lays105_ren := {
  mixed := by kernel_rfl
  f99 := Tryz.func197.trans (congrArg some (by kernel_rfl))
  f105 := Tryz.func196.trans (congrArg some (by kernel_rfl))
  f165 := Tryz.func255.trans (congrArg some (by kernel_rfl))
  f166 := Tryz.func188.trans (congrArg some (by kernel_rfl))
  f169 := Tryz.func189.trans (congrArg some (by kernel_rfl))
  f170 := Tryz.func187.trans (congrArg some (by kernel_rfl))
  f206 := Tryz.func257.trans (congrArg some (by kernel_rfl))
  f212 := Tryz.func256.trans (congrArg some (by kernel_rfl))
  f240 := Tryz.func241.trans (congrArg some (by kernel_rfl))
  f241 := Tryz.func326.trans (congrArg some (by kernel_rfl))
  f263 := Tryz.func327.trans (congrArg some (by kernel_rfl))
  f264 := Tryz.func150.trans (congrArg some (by kernel_rfl))
  f276 := Tryz.func301.trans (congrArg some (by kernel_rfl))
  f277 := Tryz.func365.trans (congrArg some (by kernel_rfl))
  t0 := Tryz.underlying0
  a0 := Tryz.isAgg0
  z0 := Tryz.sizeOf0
  v0 := Tryz.zeroValue0
  t3 := Tryz.underlying3
  a3 := Tryz.isAgg3
  z3 := Tryz.sizeOf3
  v3 := Tryz.zeroValue3
  t4 := Tryz.underlying4
  a4 := Tryz.isAgg4
  z4 := Tryz.sizeOf4
  v4 := Tryz.zeroValue4
  t5 := Tryz.underlying5
  a5 := Tryz.isAgg5
  z5 := Tryz.sizeOf5
  v5 := Tryz.zeroValue5
  t9 := Tryz.underlying9
  a9 := Tryz.isAgg9
  z9 := Tryz.sizeOf9
  v9 := Tryz.zeroValue9
  t20 := Tryz.underlying20
  a20 := Tryz.isAgg20
  z20 := Tryz.sizeOf20
  v20 := Tryz.zeroValue20
  t37 := Tryz.underlying232
  a37 := Tryz.isAgg232
  z37 := Tryz.sizeOf232
  v37 := Tryz.zeroValue232
  t46 := Tryz.underlying107
  a46 := Tryz.isAgg107
  z46 := Tryz.sizeOf107
  v46 := Tryz.zeroValue107
  t51 := Tryz.underlying88
  a51 := Tryz.isAgg88
  z51 := Tryz.sizeOf88
  v51 := Tryz.zeroValue88
  t53 := Tryz.underlying22
  a53 := Tryz.isAgg22
  z53 := Tryz.sizeOf22
  v53 := Tryz.zeroValue22
  t70 := Tryz.underlying233
  a70 := Tryz.isAgg233
  z70 := Tryz.sizeOf233
  v70 := Tryz.zeroValue233
  t72 := Tryz.underlying235
  a72 := Tryz.isAgg235
  z72 := Tryz.sizeOf235
  v72 := Tryz.zeroValue235
  t75 := Tryz.underlying226
  a75 := Tryz.isAgg226
  z75 := Tryz.sizeOf226
  v75 := Tryz.zeroValue226
  t76 := Tryz.underlying237
  a76 := Tryz.isAgg237
  z76 := Tryz.sizeOf237
  v76 := Tryz.zeroValue237
  t109 := Tryz.underlying309
  a109 := Tryz.isAgg309
  z109 := Tryz.sizeOf309
  v109 := Tryz.zeroValue309
  t127 := Tryz.underlying289
  a127 := Tryz.isAgg289
  z127 := Tryz.sizeOf289
  v127 := Tryz.zeroValue289
  t146 := Tryz.underlying372
  a146 := Tryz.isAgg372
  z146 := Tryz.sizeOf372
  v146 := Tryz.zeroValue372
  t148 := Tryz.underlying203
  a148 := Tryz.isAgg203
  z148 := Tryz.sizeOf203
  v148 := Tryz.zeroValue203
  t164 := Tryz.underlying338
  a164 := Tryz.isAgg338
  z164 := Tryz.sizeOf338
  v164 := Tryz.zeroValue338 }
theorem Tryz.Builder_Extra_105 : Builder.Extra Tryz.prog Tryz.lays105_ren := {
  sizeBuilder := by kernel_rfl
  liesBuilder := by kernel_rfl
  t5 := Tryz.underlying5
  a5 := Tryz.isAgg5
  z5 := Tryz.sizeOf5
  v5 := Tryz.zeroValue5
  infoByte := by kernel_rfl
  cellsByte := by kernel_rfl
  sizeByte := by kernel_rfl
  neB5 := by decide }
open Go.RowKit Go.Lib in
theorem Tryz.strings_Repeat_main (s : ByteArray) (c : Nat) (w : World) (hc2 : 2 ≤ c) (hc : c ≤ 9223372036854775807) (hlen : s.size * c ≤ 140737488355328) (h0 : 0 < s.size) :
    Calls Tryz.prog 196 #[.string s, .int .i64 c] w fun e w' => e = .returned (.string ⟨(Lib.repeatL s.data.toList c).toArray⟩) ∧ Below w.heap.size w w' := Any.strings_Repeat_main Tryz.lays105 Tryz.Builder_Extra_105 s c w hc2 hc hlen h0
open Go.RowKit Go.Lib in
theorem Tryz.strings_Repeat_zero (s : ByteArray) (w : World) :
    Calls Tryz.prog 196 #[.string s, .int .i64 0] w fun e w' => e = .returned (.string ⟨#[]⟩) ∧ w' = w := Any.strings_Repeat_zero Tryz.lays105 s w
open Go.RowKit Go.Lib in
theorem Tryz.strings_Repeat_one (s : ByteArray) (w : World) :
    Calls Tryz.prog 196 #[.string s, .int .i64 1] w fun e w' => e = .returned (.string s) ∧ w' = w := Any.strings_Repeat_one Tryz.lays105 s w
end Go.Proofs
