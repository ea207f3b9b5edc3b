/-
  DERIVED: THE SHELF's CONTRACTS AT THIS DUMP, IN PLAIN WORDS (tools/lay-plain.mjs out of 'TryzPick.lean', which tools/lay-shelf.mjs wrote): THE SAME DECLARATIONS UNDER THE SAME NAMES: 'import', 'namespace', 'open', 'def', 'theorem' AND NOTHING ELSE: no command of the shelf's: FOR A HAND-IN. Each laying: the table of numbers ('.._ren') and one theorem, a field a fact of the dump's own or the kernel's comparison; each contract: ONE APPLICATION.
-/
import Derived.Shelf.Strings.Builder1
import Derived.Shelf.Strings.Builder2
import Derived.Shelf.Strings.OnBuilder
import Derived.Shelf.Strings.Trim
import Derived.Shelf.Small.Utf8
import Derived.Shelf.Small.Bits
import Derived.Shelf.Small.Strs
import Derived.Shelf.Small.Wraps
import Derived.Shelf.Strings.BuilderF
import Derived.Shelf.Strings.BuilderK
import Derived.Shelf.Utf8.RuneCount
import Derived.Shelf.Strings.Builder2Cap
import Derived.Shelf.Strconv.Itoa0
import Derived.Shelf.Strconv.Itoa1
import Derived.Shelf.LaysM
import Derived.Shelf.Strconv.Itoa2
import Derived.Shelf.Strconv.Itoa3
import Derived.Shelf.Strconv.Clone
import Derived.Shelf.Strconv.SyntaxError
import Derived.Shelf.LaysC
import Derived.Shelf.Strconv.ToError
import Derived.Shelf.Strconv.Lower
import Derived.Shelf.Strconv.RangeError
import Derived.Shelf.Strconv.ToErrorRange
import Derived.Shelf.Strings.Search1
import Derived.Shelf.Strings.Search2
import Derived.Shelf.Strings.Search3
import Derived.Shelf.Strings.Cut
import Derived.Shelf.Strings.Count
import Derived.Shelf.Strings.Shaped
import Derived.Shelf.GgClosure.StringsIndexFunc
import Derived.Shelf.GgClosure.StringsTrimFunc
import Derived.Shelf.Strings.Prefix
import Derived.Shelf.Strings.Split
import Derived.Shelf.Strings.Replace
import Derived.Shelf.Strings.SplitShaped
import Derived.Shelf.Unicode.Latin
import Derived.Shelf.Unicode.Decode
import Derived.Shelf.Strings.Runes
import Derived.Shelf.Strings.RuneCount
import Derived.Shelf.Strings.AsciiSet
import Derived.Shelf.Strings.Explode
import Derived.Shelf.Bits.Mul64
import Derived.Shelf.Strings.Repeat
import Derived.Shelf.Unicode.DecodeSlow
import Derived.Shelf.Unicode.DecodeAny
import Derived.Shelf.Unicode.DecodeLast
import Derived.Shelf.Unicode.CaseLookup
import Derived.Shelf.Unicode.CaseConvert
import Derived.Shelf.Unicode.CaseTo
import Derived.Shelf.Unicode.CaseLaid
import Derived.Ground.Names2Prog
import Derived.Shelf.Slices.Clone
import Derived.Shelf.Slices.CompactI
import Derived.Shelf.Slices.SearchI
import Derived.Shelf.Slices.Delete
import Derived.Shelf.Slices.Cells
import Derived.Shelf.Slices.Empties
import Derived.Ground.SlgnProg
import Derived.Shelf.SlicesE.Clone
import Derived.Ground.SlgmProg
import Derived.Shelf.SortM.Plain
import Derived.Shelf.SortM.SortNone
import Derived.Test.YtlhpnccdfgjifaaGreatDoorProg
import Derived.KernelRfl
namespace Go.Proofs
open Go.Shelf
def Tryz.lays169_ren : Go.Shelf.Ren := ⟨fun | 169 => 20 | n => n, fun | 70 => 39 | 9 => 9 | 0 => 0 | 72 => 42 | 37 => 40 | 127 => 122 | 3 => 3 | 5 => 5 | n => n, fun | n => n⟩
theorem Tryz.lays169 : Go.Proofs.Lays.n169 Tryz.prog Tryz.lays169_ren := {
  mixed := by kernel_rfl
  f169 := Tryz.func20.trans (congrArg some (by kernel_rfl))
  t0 := Tryz.underlying0
  a0 := Tryz.isAgg0
  z0 := Tryz.sizeOf0
  v0 := Tryz.zeroValue0
  t3 := Tryz.underlying3
  a3 := Tryz.isAgg3
  z3 := Tryz.sizeOf3
  v3 := Tryz.zeroValue3
  t9 := Tryz.underlying9
  a9 := Tryz.isAgg9
  z9 := Tryz.sizeOf9
  v9 := Tryz.zeroValue9
  t37 := Tryz.underlying40
  a37 := Tryz.isAgg40
  z37 := Tryz.sizeOf40
  v37 := Tryz.zeroValue40
  t70 := Tryz.underlying39
  a70 := Tryz.isAgg39
  z70 := Tryz.sizeOf39
  v70 := Tryz.zeroValue39
  t72 := Tryz.underlying42
  a72 := Tryz.isAgg42
  z72 := Tryz.sizeOf42
  v72 := Tryz.zeroValue42
  t127 := Tryz.underlying122
  a127 := Tryz.isAgg122
  z127 := Tryz.sizeOf122
  v127 := Tryz.zeroValue122 }
theorem Tryz.Builder_Extra_169 : Builder.Extra Tryz.prog Tryz.lays169_ren := {
  sizeBuilder := by kernel_rfl
  liesBuilder := by kernel_rfl
  t5 := Tryz.underlying5
  a5 := Tryz.isAgg5
  z5 := Tryz.sizeOf5
  v5 := Tryz.zeroValue5
  infoByte := by kernel_rfl
  cellsByte := by kernel_rfl
  sizeByte := by kernel_rfl
  neB5 := by decide }
open Go.RowKit in
theorem Tryz.Builder_String (B b : Nat) (l : List UInt8) (w : World) (h : Lib.IsBuilder 42 5 B b (Lib.byteCells l) w) (h0 : l ≠ []) :
    Calls Tryz.prog 20 #[.pointer (some ⟨b, 0, none⟩)] w fun e w' => e = .returned (.string ⟨l.toArray⟩) ∧ Below B w w' := Any.Builder_String Tryz.lays169 Tryz.Builder_Extra_169 B b l w h h0
open Go.RowKit in
theorem Tryz.Builder_String_any (B b : Nat) (l : List UInt8) (w : World) (h : Lib.IsBuilder 42 5 B b (Lib.byteCells l) w) (hBw : B ≤ w.heap.size) :
    Calls Tryz.prog 20 #[.pointer (some ⟨b, 0, none⟩)] w fun e w' => e = .returned (.string ⟨l.toArray⟩) ∧ Below B w w' := Any.Builder_String_any Tryz.lays169 Tryz.Builder_Extra_169 B b l w h hBw
def Tryz.lays156_ren : Go.Shelf.Ren := ⟨fun | 156 => 84 | 165 => 163 | 166 => 22 | 169 => 20 | 240 => 54 | 241 => 237 | 276 => 104 | 277 => 294 | n => n, fun | 31 => 165 | 9 => 9 | 3 => 3 | 4 => 4 | 0 => 0 | 20 => 20 | 72 => 42 | 76 => 50 | 70 => 39 | 37 => 40 | 75 => 45 | 127 => 122 | 164 => 181 | 5 => 5 | 80 => 36 | n => n, fun | n => n⟩
theorem Tryz.lays156 : Go.Proofs.Lays.n156 Tryz.prog Tryz.lays156_ren := {
  mixed := by kernel_rfl
  f156 := Tryz.func84.trans (congrArg some (by kernel_rfl))
  f165 := Tryz.func163.trans (congrArg some (by kernel_rfl))
  f166 := Tryz.func22.trans (congrArg some (by kernel_rfl))
  f169 := Tryz.func20.trans (congrArg some (by kernel_rfl))
  f240 := Tryz.func54.trans (congrArg some (by kernel_rfl))
  f241 := Tryz.func237.trans (congrArg some (by kernel_rfl))
  f276 := Tryz.func104.trans (congrArg some (by kernel_rfl))
  f277 := Tryz.func294.trans (congrArg some (by kernel_rfl))
  t0 := Tryz.underlying0
  a0 := Tryz.isAgg0
  z0 := Tryz.sizeOf0
  v0 := Tryz.zeroValue0
  t3 := Tryz.underlying3
  a3 := Tryz.isAgg3
  z3 := Tryz.sizeOf3
  v3 := Tryz.zeroValue3
  t4 := Tryz.underlying4
  a4 := Tryz.isAgg4
  z4 := Tryz.sizeOf4
  v4 := Tryz.zeroValue4
  t9 := Tryz.underlying9
  a9 := Tryz.isAgg9
  z9 := Tryz.sizeOf9
  v9 := Tryz.zeroValue9
  t20 := Tryz.underlying20
  a20 := Tryz.isAgg20
  z20 := Tryz.sizeOf20
  v20 := Tryz.zeroValue20
  t31 := Tryz.underlying165
  a31 := Tryz.isAgg165
  z31 := Tryz.sizeOf165
  v31 := Tryz.zeroValue165
  t37 := Tryz.underlying40
  a37 := Tryz.isAgg40
  z37 := Tryz.sizeOf40
  v37 := Tryz.zeroValue40
  t70 := Tryz.underlying39
  a70 := Tryz.isAgg39
  z70 := Tryz.sizeOf39
  v70 := Tryz.zeroValue39
  t72 := Tryz.underlying42
  a72 := Tryz.isAgg42
  z72 := Tryz.sizeOf42
  v72 := Tryz.zeroValue42
  t75 := Tryz.underlying45
  a75 := Tryz.isAgg45
  z75 := Tryz.sizeOf45
  v75 := Tryz.zeroValue45
  t76 := Tryz.underlying50
  a76 := Tryz.isAgg50
  z76 := Tryz.sizeOf50
  v76 := Tryz.zeroValue50
  t127 := Tryz.underlying122
  a127 := Tryz.isAgg122
  z127 := Tryz.sizeOf122
  v127 := Tryz.zeroValue122
  t164 := Tryz.underlying181
  a164 := Tryz.isAgg181
  z164 := Tryz.sizeOf181
  v164 := Tryz.zeroValue181 }
theorem Tryz.Builder_Extra_156 : Builder.Extra Tryz.prog Tryz.lays156_ren := {
  sizeBuilder := by kernel_rfl
  liesBuilder := by kernel_rfl
  t5 := Tryz.underlying5
  a5 := Tryz.isAgg5
  z5 := Tryz.sizeOf5
  v5 := Tryz.zeroValue5
  infoByte := by kernel_rfl
  cellsByte := by kernel_rfl
  sizeByte := by kernel_rfl
  neB5 := by decide }
open Go.RowKit in
theorem Tryz.strings_Join (bk o c : Nat) (xs : List ByteArray) (sep : ByteArray) (w : World) (hcells : ∀ (j : Nat) x, xs[j]? = some x → w.cell? ⟨bk, o + j, none⟩ = some (.string x)) (hbk : bk < w.heap.size) (hN : xs.length ≤ 140737488355328) (hcap : xs.length ≤ c) (hlen : (Lib.join (xs.map (·.data.toList)) sep.data.toList).length ≤ 140737488355328) :
    Calls Tryz.prog 84 #[.slice (some ⟨bk, o, none⟩) xs.length c, .string sep] w fun e w' => e = .returned (.string ⟨(Lib.join (xs.map (·.data.toList)) sep.data.toList).toArray⟩) ∧ Below w.heap.size w w' := Any.strings_Join Tryz.lays156 Tryz.Builder_Extra_156 bk o c xs sep w hcells hbk hN hcap hlen
def Tryz.lays103_ren : Go.Shelf.Ren := ⟨fun | 103 => 15 | 210 => 49 | 206 => 51 | n => n, fun | 9 => 9 | 4 => 4 | 24 => 23 | 3 => 3 | n => n, fun | n => n⟩
theorem Tryz.lays103 : Go.Proofs.Lays.n103 Tryz.prog Tryz.lays103_ren := {
  mixed := by kernel_rfl
  f103 := Tryz.func15.trans (congrArg some (by kernel_rfl))
  f206 := Tryz.func51.trans (congrArg some (by kernel_rfl))
  f210 := Tryz.func49.trans (congrArg some (by kernel_rfl))
  t3 := Tryz.underlying3
  a3 := Tryz.isAgg3
  z3 := Tryz.sizeOf3
  v3 := Tryz.zeroValue3
  t4 := Tryz.underlying4
  a4 := Tryz.isAgg4
  z4 := Tryz.sizeOf4
  v4 := Tryz.zeroValue4
  t9 := Tryz.underlying9
  a9 := Tryz.isAgg9
  z9 := Tryz.sizeOf9
  v9 := Tryz.zeroValue9
  t24 := Tryz.underlying23
  a24 := Tryz.isAgg23
  z24 := Tryz.sizeOf23
  v24 := Tryz.zeroValue23 }
open Go.RowKit in
theorem Tryz.strings_CutPrefix (s p : ByteArray) (w : World) :
    Calls Tryz.prog 15 #[.string s, .string p] w fun e w' => e = .returned (.tuple #[.string ⟨(Lib.trimPrefix s.data.toList p.data.toList).toArray⟩, .bool (Lib.hasPrefix s.data.toList p.data.toList)]) ∧ w' = w := Any.strings_CutPrefix Tryz.lays103 s p w
def Tryz.lays104_ren : Go.Shelf.Ren := ⟨fun | 104 => 16 | 211 => 50 | 207 => 97 | n => n, fun | 9 => 9 | 4 => 4 | 24 => 23 | 3 => 3 | n => n, fun | n => n⟩
theorem Tryz.lays104 : Go.Proofs.Lays.n104 Tryz.prog Tryz.lays104_ren := {
  mixed := by kernel_rfl
  f104 := Tryz.func16.trans (congrArg some (by kernel_rfl))
  f207 := Tryz.func97.trans (congrArg some (by kernel_rfl))
  f211 := Tryz.func50.trans (congrArg some (by kernel_rfl))
  t3 := Tryz.underlying3
  a3 := Tryz.isAgg3
  z3 := Tryz.sizeOf3
  v3 := Tryz.zeroValue3
  t4 := Tryz.underlying4
  a4 := Tryz.isAgg4
  z4 := Tryz.sizeOf4
  v4 := Tryz.zeroValue4
  t9 := Tryz.underlying9
  a9 := Tryz.isAgg9
  z9 := Tryz.sizeOf9
  v9 := Tryz.zeroValue9
  t24 := Tryz.underlying23
  a24 := Tryz.isAgg23
  z24 := Tryz.sizeOf23
  v24 := Tryz.zeroValue23 }
open Go.RowKit in
theorem Tryz.strings_CutSuffix (s p : ByteArray) (w : World) (hs : s.size ≤ 9223372036854775807) :
    Calls Tryz.prog 16 #[.string s, .string p] w fun e w' => e = .returned (.tuple #[.string ⟨(Lib.trimSuffix s.data.toList p.data.toList).toArray⟩, .bool (Lib.hasSuffix s.data.toList p.data.toList)]) ∧ w' = w := Any.strings_CutSuffix Tryz.lays104 s p w hs
def Tryz.laysC245_ren : Go.Shelf.Ren := ⟨fun | 245 => 53 | 279 => 100 | 280 => 101 | 281 => 102 | 282 => 103 | 316 => 180 | 171 => 48 | 205 => 181 | 243 => 96 | 246 => 179 | 283 => 256 | 284 => 257 | 285 => 258 | 286 => 259 | 129 => 305 | 317 => 319 | 318 => 320 | 319 => 321 | 320 => 322 | 337 => 384 | 338 => 385 | n => n, fun | 9 => 9 | 3 => 3 | 75 => 45 | 167 => 175 | 4 => 4 | 168 => 178 | 210 => 268 | 37 => 40 | 0 => 0 | 127 => 122 | 145 => 358 | 143 => 356 | 2 => 2 | 171 => 352 | 53 => 43 | 5 => 5 | 173 => 354 | 212 => 412 | 51 => 319 | 20 => 20 | 213 => 413 | 46 => 52 | 232 => 523 | 233 => 524 | 80 => 36 | n => n, fun | 15 => 2 | 16 => 3 | 17 => 8 | 18 => 10 | 19 => 11 | n => n⟩
theorem Tryz.laysC245 : Go.Proofs.LaysC.n245 Tryz.prog Tryz.laysC245_ren := {
  mixed := by kernel_rfl
  f129 := Tryz.func305.trans (congrArg some (by kernel_rfl))
  f171 := Tryz.func48.trans (congrArg some (by kernel_rfl))
  f205 := Tryz.func181.trans (congrArg some (by kernel_rfl))
  f243 := Tryz.func96.trans (congrArg some (by kernel_rfl))
  f245 := Tryz.func53.trans (congrArg some (by kernel_rfl))
  f246 := Tryz.func179.trans (congrArg some (by kernel_rfl))
  f279 := Tryz.func100.trans (congrArg some (by kernel_rfl))
  f280 := Tryz.func101.trans (congrArg some (by kernel_rfl))
  f281 := Tryz.func102.trans (congrArg some (by kernel_rfl))
  f282 := Tryz.func103.trans (congrArg some (by kernel_rfl))
  f283 := Tryz.func256.trans (congrArg some (by kernel_rfl))
  f284 := Tryz.func257.trans (congrArg some (by kernel_rfl))
  f285 := Tryz.func258.trans (congrArg some (by kernel_rfl))
  f286 := Tryz.func259.trans (congrArg some (by kernel_rfl))
  f316 := Tryz.func180.trans (congrArg some (by kernel_rfl))
  f317 := Tryz.func319.trans (congrArg some (by kernel_rfl))
  f318 := Tryz.func320.trans (congrArg some (by kernel_rfl))
  f319 := Tryz.func321.trans (congrArg some (by kernel_rfl))
  f320 := Tryz.func322.trans (congrArg some (by kernel_rfl))
  f337 := Tryz.func384.trans (congrArg some (by kernel_rfl))
  f338 := Tryz.func385.trans (congrArg some (by kernel_rfl))
  t0 := Tryz.underlying0
  a0 := Tryz.isAgg0
  z0 := Tryz.sizeOf0
  v0 := Tryz.zeroValue0
  t2 := Tryz.underlying2
  a2 := Tryz.isAgg2
  z2 := Tryz.sizeOf2
  v2 := Tryz.zeroValue2
  t3 := Tryz.underlying3
  a3 := Tryz.isAgg3
  z3 := Tryz.sizeOf3
  v3 := Tryz.zeroValue3
  t4 := Tryz.underlying4
  a4 := Tryz.isAgg4
  z4 := Tryz.sizeOf4
  v4 := Tryz.zeroValue4
  t5 := Tryz.underlying5
  a5 := Tryz.isAgg5
  z5 := Tryz.sizeOf5
  v5 := Tryz.zeroValue5
  t9 := Tryz.underlying9
  a9 := Tryz.isAgg9
  z9 := Tryz.sizeOf9
  v9 := Tryz.zeroValue9
  t20 := Tryz.underlying20
  a20 := Tryz.isAgg20
  z20 := Tryz.sizeOf20
  v20 := Tryz.zeroValue20
  t37 := Tryz.underlying40
  a37 := Tryz.isAgg40
  z37 := Tryz.sizeOf40
  v37 := Tryz.zeroValue40
  t46 := Tryz.underlying52
  a46 := Tryz.isAgg52
  z46 := Tryz.sizeOf52
  v46 := Tryz.zeroValue52
  t51 := Tryz.underlying319
  a51 := Tryz.isAgg319
  z51 := Tryz.sizeOf319
  v51 := Tryz.zeroValue319
  t53 := Tryz.underlying43
  a53 := Tryz.isAgg43
  z53 := Tryz.sizeOf43
  v53 := Tryz.zeroValue43
  t75 := Tryz.underlying45
  a75 := Tryz.isAgg45
  z75 := Tryz.sizeOf45
  v75 := Tryz.zeroValue45
  t127 := Tryz.underlying122
  a127 := Tryz.isAgg122
  z127 := Tryz.sizeOf122
  v127 := Tryz.zeroValue122
  t143 := Tryz.underlying356
  a143 := Tryz.isAgg356
  z143 := Tryz.sizeOf356
  v143 := Tryz.zeroValue356
  t145 := Tryz.underlying358
  a145 := Tryz.isAgg358
  z145 := Tryz.sizeOf358
  v145 := Tryz.zeroValue358
  t167 := Tryz.underlying175
  a167 := Tryz.isAgg175
  z167 := Tryz.sizeOf175
  v167 := Tryz.zeroValue175
  t168 := Tryz.underlying178
  a168 := Tryz.isAgg178
  z168 := Tryz.sizeOf178
  v168 := Tryz.zeroValue178
  t171 := Tryz.underlying352
  a171 := Tryz.isAgg352
  z171 := Tryz.sizeOf352
  v171 := Tryz.zeroValue352
  t173 := Tryz.underlying354
  a173 := Tryz.isAgg354
  z173 := Tryz.sizeOf354
  v173 := Tryz.zeroValue354
  t210 := Tryz.underlying268
  a210 := Tryz.isAgg268
  z210 := Tryz.sizeOf268
  v210 := Tryz.zeroValue268
  t212 := Tryz.underlying412
  a212 := Tryz.isAgg412
  z212 := Tryz.sizeOf412
  v212 := Tryz.zeroValue412
  t213 := Tryz.underlying413
  a213 := Tryz.isAgg413
  z213 := Tryz.sizeOf413
  t232 := Tryz.underlying523
  a232 := Tryz.isAgg523
  z232 := Tryz.sizeOf523
  v232 := Tryz.zeroValue523
  t233 := Tryz.underlying524
  a233 := Tryz.isAgg524
  z233 := Tryz.sizeOf524
  v233 := Tryz.zeroValue524
  g15 := by kernel_rfl
  g16 := by kernel_rfl
  g17 := by kernel_rfl
  g18 := by kernel_rfl
  g19 := by kernel_rfl
  t80 := Tryz.underlying36
  a80 := Tryz.isAgg36
  z80 := Tryz.sizeOf36
  v80 := Tryz.zeroValue36
  i0 := by kernel_rfl
  i2 := by kernel_rfl
  i3 := by kernel_rfl
  i4 := by kernel_rfl
  i5 := by kernel_rfl
  i9 := by kernel_rfl
  i20 := by kernel_rfl
  i37 := by kernel_rfl
  i46 := by kernel_rfl
  i51 := by kernel_rfl
  i53 := by kernel_rfl
  i75 := by kernel_rfl
  i80 := by kernel_rfl
  i127 := by kernel_rfl
  i143 := by kernel_rfl
  i145 := by kernel_rfl
  i167 := by kernel_rfl
  i168 := by kernel_rfl
  i171 := by kernel_rfl
  i173 := by kernel_rfl
  i210 := by kernel_rfl
  i212 := by kernel_rfl
  i232 := by kernel_rfl
  i233 := by kernel_rfl
  m15 := by kernel_rfl
  m16 := by kernel_rfl
  m17 := by kernel_rfl
  m18 := by kernel_rfl
  m19 := by kernel_rfl
  c0 := by kernel_rfl
  c2 := by kernel_rfl
  c3 := by kernel_rfl
  c4 := by kernel_rfl
  c5 := by kernel_rfl
  c9 := by kernel_rfl
  c20 := by kernel_rfl
  c37 := by kernel_rfl
  c46 := by kernel_rfl
  c51 := by kernel_rfl
  c53 := by kernel_rfl
  c75 := by kernel_rfl
  c80 := by kernel_rfl
  c127 := by kernel_rfl
  c143 := by kernel_rfl
  c145 := by kernel_rfl
  c167 := by kernel_rfl
  c168 := by kernel_rfl
  c171 := by kernel_rfl
  c173 := by kernel_rfl
  c210 := by kernel_rfl
  c212 := by kernel_rfl
  c213 := by kernel_rfl
  c232 := by kernel_rfl
  c233 := by kernel_rfl }
open Go.RowKit in
theorem Tryz.strconv_toError_syntax (fn s : ByteArray) (base bits : Int) (ev : Value) (w : World) (hlim : s.size ≤ 281474976710656) (hv : w.cell? ⟨2, 0, none⟩ = some ev) (hev : ev = .nilIface ∨ ∃ te pe, ev = .iface te pe) :
    Calls Tryz.prog 53 #[.string fn, .string s, .int .i64 base, .int .i64 bits, .iface 175 (.int .i64 2)] w fun e w' => ∃ N, e = .returned (.iface 178 (.pointer (some ⟨N, 0, none⟩))) ∧ w.heap.size ≤ N ∧ w'.heap[N]? = some (.cells #[.string fn, .string s, ev] 268 (0, 0)) ∧ Below w.heap.size w w' := Any.strconv_toError_syntax Tryz.laysC245 fn s base bits ev w hlim hv hev
def Tryz.lays206_ren : Go.Shelf.Ren := ⟨fun | 206 => 51 | n => n, fun | 9 => 9 | 4 => 4 | 3 => 3 | n => n, fun | n => n⟩
theorem Tryz.lays206 : Go.Proofs.Lays.n206 Tryz.prog Tryz.lays206_ren := {
  mixed := by kernel_rfl
  f206 := Tryz.func51.trans (congrArg some (by kernel_rfl))
  t3 := Tryz.underlying3
  a3 := Tryz.isAgg3
  z3 := Tryz.sizeOf3
  v3 := Tryz.zeroValue3
  t4 := Tryz.underlying4
  a4 := Tryz.isAgg4
  z4 := Tryz.sizeOf4
  v4 := Tryz.zeroValue4
  t9 := Tryz.underlying9
  a9 := Tryz.isAgg9
  z9 := Tryz.sizeOf9
  v9 := Tryz.zeroValue9 }
open Go.RowKit Go.Lib in
theorem Tryz.stringslite_HasPrefix (s p : ByteArray) (w : World) :
    Calls Tryz.prog 51 #[.string s, .string p] w fun e w' => e = .returned (.bool (Lib.hasPrefix s.data.toList p.data.toList)) ∧ w' = w := Any.stringslite_HasPrefix Tryz.lays206 s p w
def Tryz.lays99_ren : Go.Shelf.Ren := ⟨fun | 99 => 17 | 206 => 51 | n => n, fun | 9 => 9 | 4 => 4 | 3 => 3 | n => n, fun | n => n⟩
theorem Tryz.lays99 : Go.Proofs.Lays.n99 Tryz.prog Tryz.lays99_ren := {
  mixed := by kernel_rfl
  f99 := Tryz.func17.trans (congrArg some (by kernel_rfl))
  f206 := Tryz.func51.trans (congrArg some (by kernel_rfl))
  t3 := Tryz.underlying3
  a3 := Tryz.isAgg3
  z3 := Tryz.sizeOf3
  v3 := Tryz.zeroValue3
  t4 := Tryz.underlying4
  a4 := Tryz.isAgg4
  z4 := Tryz.sizeOf4
  v4 := Tryz.zeroValue4
  t9 := Tryz.underlying9
  a9 := Tryz.isAgg9
  z9 := Tryz.sizeOf9
  v9 := Tryz.zeroValue9 }
open Go.RowKit Go.Lib in
theorem Tryz.strings_HasPrefix (s p : ByteArray) (w : World) :
    Calls Tryz.prog 17 #[.string s, .string p] w fun e w' => e = .returned (.bool (Lib.hasPrefix s.data.toList p.data.toList)) ∧ w' = w := Any.strings_HasPrefix Tryz.lays99 s p w
open Go.RowKit Go.Lib in
def Tryz.lays155_ren : Go.Shelf.Ren := ⟨fun | 155 => 174 | 154 => 173 | 138 => 252 | 165 => 163 | 143 => 253 | 166 => 22 | 197 => 222 | 169 => 20 | 195 => 316 | 218 => 317 | 240 => 54 | 241 => 237 | 219 => 153 | 260 => 288 | 276 => 104 | 277 => 294 | 217 => 218 | 225 => 230 | 224 => 231 | 267 => 232 | 266 => 286 | 314 => 290 | n => n, fun | 9 => 9 | 3 => 3 | 4 => 4 | 72 => 42 | 0 => 0 | 76 => 50 | 105 => 310 | 21 => 21 | 5 => 5 | 70 => 39 | 20 => 20 | 37 => 40 | 75 => 45 | 127 => 122 | 164 => 181 | 46 => 52 | 119 => 301 | 139 => 304 | 138 => 303 | 146 => 382 | 51 => 319 | 80 => 36 | n => n, fun | 1 => 6 | 3 => 4 | 4 => 5 | n => n⟩
theorem Tryz.lays155 : Go.Proofs.Lays.n155 Tryz.prog Tryz.lays155_ren := {
  mixed := by kernel_rfl
  f138 := Tryz.func252.trans (congrArg some (by kernel_rfl))
  f143 := Tryz.func253.trans (congrArg some (by kernel_rfl))
  f154 := Tryz.func173.trans (congrArg some (by kernel_rfl))
  f155 := Tryz.func174.trans (congrArg some (by kernel_rfl))
  f165 := Tryz.func163.trans (congrArg some (by kernel_rfl))
  f166 := Tryz.func22.trans (congrArg some (by kernel_rfl))
  f169 := Tryz.func20.trans (congrArg some (by kernel_rfl))
  f195 := Tryz.func316.trans (congrArg some (by kernel_rfl))
  f197 := Tryz.func222.trans (congrArg some (by kernel_rfl))
  f217 := Tryz.func218.trans (congrArg some (by kernel_rfl))
  f218 := Tryz.func317.trans (congrArg some (by kernel_rfl))
  f219 := Tryz.func153.trans (congrArg some (by kernel_rfl))
  f224 := Tryz.func231.trans (congrArg some (by kernel_rfl))
  f225 := Tryz.func230.trans (congrArg some (by kernel_rfl))
  f240 := Tryz.func54.trans (congrArg some (by kernel_rfl))
  f241 := Tryz.func237.trans (congrArg some (by kernel_rfl))
  f260 := Tryz.func288.trans (congrArg some (by kernel_rfl))
  f266 := Tryz.func286.trans (congrArg some (by kernel_rfl))
  f267 := Tryz.func232.trans (congrArg some (by kernel_rfl))
  f276 := Tryz.func104.trans (congrArg some (by kernel_rfl))
  f277 := Tryz.func294.trans (congrArg some (by kernel_rfl))
  f314 := Tryz.func290.trans (congrArg some (by kernel_rfl))
  t0 := Tryz.underlying0
  a0 := Tryz.isAgg0
  z0 := Tryz.sizeOf0
  v0 := Tryz.zeroValue0
  t3 := Tryz.underlying3
  a3 := Tryz.isAgg3
  z3 := Tryz.sizeOf3
  v3 := Tryz.zeroValue3
  t4 := Tryz.underlying4
  a4 := Tryz.isAgg4
  z4 := Tryz.sizeOf4
  v4 := Tryz.zeroValue4
  t5 := Tryz.underlying5
  a5 := Tryz.isAgg5
  z5 := Tryz.sizeOf5
  v5 := Tryz.zeroValue5
  t9 := Tryz.underlying9
  a9 := Tryz.isAgg9
  z9 := Tryz.sizeOf9
  v9 := Tryz.zeroValue9
  t20 := Tryz.underlying20
  a20 := Tryz.isAgg20
  z20 := Tryz.sizeOf20
  v20 := Tryz.zeroValue20
  t21 := Tryz.underlying21
  a21 := Tryz.isAgg21
  z21 := Tryz.sizeOf21
  v21 := Tryz.zeroValue21
  t37 := Tryz.underlying40
  a37 := Tryz.isAgg40
  z37 := Tryz.sizeOf40
  v37 := Tryz.zeroValue40
  t46 := Tryz.underlying52
  a46 := Tryz.isAgg52
  z46 := Tryz.sizeOf52
  v46 := Tryz.zeroValue52
  t51 := Tryz.underlying319
  a51 := Tryz.isAgg319
  z51 := Tryz.sizeOf319
  v51 := Tryz.zeroValue319
  t70 := Tryz.underlying39
  a70 := Tryz.isAgg39
  z70 := Tryz.sizeOf39
  v70 := Tryz.zeroValue39
  t72 := Tryz.underlying42
  a72 := Tryz.isAgg42
  z72 := Tryz.sizeOf42
  v72 := Tryz.zeroValue42
  t75 := Tryz.underlying45
  a75 := Tryz.isAgg45
  z75 := Tryz.sizeOf45
  v75 := Tryz.zeroValue45
  t76 := Tryz.underlying50
  a76 := Tryz.isAgg50
  z76 := Tryz.sizeOf50
  v76 := Tryz.zeroValue50
  t105 := Tryz.underlying310
  a105 := Tryz.isAgg310
  z105 := Tryz.sizeOf310
  v105 := Tryz.zeroValue310
  t119 := Tryz.underlying301
  a119 := Tryz.isAgg301
  z119 := Tryz.sizeOf301
  t127 := Tryz.underlying122
  a127 := Tryz.isAgg122
  z127 := Tryz.sizeOf122
  v127 := Tryz.zeroValue122
  t138 := Tryz.underlying303
  a138 := Tryz.isAgg303
  z138 := Tryz.sizeOf303
  v138 := Tryz.zeroValue303
  t139 := Tryz.underlying304
  a139 := Tryz.isAgg304
  z139 := Tryz.sizeOf304
  v139 := Tryz.zeroValue304
  t146 := Tryz.underlying382
  a146 := Tryz.isAgg382
  z146 := Tryz.sizeOf382
  v146 := Tryz.zeroValue382
  t164 := Tryz.underlying181
  a164 := Tryz.isAgg181
  z164 := Tryz.sizeOf181
  v164 := Tryz.zeroValue181
  g1 := by kernel_rfl
  g3 := by kernel_rfl
  g4 := by kernel_rfl }
theorem Tryz.Builder_Extra_155 : Builder.Extra Tryz.prog Tryz.lays155_ren := {
  sizeBuilder := by kernel_rfl
  liesBuilder := by kernel_rfl
  t5 := Tryz.underlying5
  a5 := Tryz.isAgg5
  z5 := Tryz.sizeOf5
  v5 := Tryz.zeroValue5
  infoByte := by kernel_rfl
  cellsByte := by kernel_rfl
  sizeByte := by kernel_rfl
  neB5 := by decide }
open Go.RowKit Go.Lib in
theorem Tryz.strings_ReplaceAll (s old new : ByteArray) (m : Int) (w : World) (hs : s.size < 4294967281) (hm : w.cell? ⟨6, 0, none⟩ = some (.int .i64 m)) (h1 : 1 ≤ old.size) (hlen : s.size + Lib.countB s old * new.size ≤ 140737488355328) :
    Calls Tryz.prog 174 #[.string s, .string old, .string new] w fun e w' =>
      e = .returned (.string ⟨(Lib.replaceAll s.data.toList old.data.toList new.data.toList).toArray⟩) ∧ Below w.heap.size w w' := Any.strings_ReplaceAll Tryz.lays155 Tryz.Builder_Extra_155 s old new m w hs hm h1 hlen
def Tryz.lays105_ren : Go.Shelf.Ren := ⟨fun | 105 => 246 | 212 => 310 | 99 => 17 | 165 => 163 | 166 => 22 | 170 => 311 | 169 => 20 | 263 => 379 | 264 => 380 | 206 => 51 | 240 => 54 | 241 => 237 | 276 => 104 | 277 => 294 | n => n, fun | 9 => 9 | 3 => 3 | 4 => 4 | 20 => 20 | 0 => 0 | 46 => 52 | 109 => 404 | 5 => 5 | 72 => 42 | 76 => 50 | 51 => 319 | 146 => 382 | 53 => 43 | 148 => 473 | 70 => 39 | 37 => 40 | 75 => 45 | 127 => 122 | 164 => 181 | 80 => 36 | n => n, fun | n => n⟩
theorem Tryz.lays105 : Go.Proofs.Lays.n105 Tryz.prog Tryz.lays105_ren := {
  mixed := by kernel_rfl
  f99 := Tryz.func17.trans (congrArg some (by kernel_rfl))
  f105 := Tryz.func246.trans (congrArg some (by kernel_rfl))
  f165 := Tryz.func163.trans (congrArg some (by kernel_rfl))
  f166 := Tryz.func22.trans (congrArg some (by kernel_rfl))
  f169 := Tryz.func20.trans (congrArg some (by kernel_rfl))
  f170 := Tryz.func311.trans (congrArg some (by kernel_rfl))
  f206 := Tryz.func51.trans (congrArg some (by kernel_rfl))
  f212 := Tryz.func310.trans (congrArg some (by kernel_rfl))
  f240 := Tryz.func54.trans (congrArg some (by kernel_rfl))
  f241 := Tryz.func237.trans (congrArg some (by kernel_rfl))
  f263 := Tryz.func379.trans (congrArg some (by kernel_rfl))
  f264 := Tryz.func380.trans (congrArg some (by kernel_rfl))
  f276 := Tryz.func104.trans (congrArg some (by kernel_rfl))
  f277 := Tryz.func294.trans (congrArg some (by kernel_rfl))
  t0 := Tryz.underlying0
  a0 := Tryz.isAgg0
  z0 := Tryz.sizeOf0
  v0 := Tryz.zeroValue0
  t3 := Tryz.underlying3
  a3 := Tryz.isAgg3
  z3 := Tryz.sizeOf3
  v3 := Tryz.zeroValue3
  t4 := Tryz.underlying4
  a4 := Tryz.isAgg4
  z4 := Tryz.sizeOf4
  v4 := Tryz.zeroValue4
  t5 := Tryz.underlying5
  a5 := Tryz.isAgg5
  z5 := Tryz.sizeOf5
  v5 := Tryz.zeroValue5
  t9 := Tryz.underlying9
  a9 := Tryz.isAgg9
  z9 := Tryz.sizeOf9
  v9 := Tryz.zeroValue9
  t20 := Tryz.underlying20
  a20 := Tryz.isAgg20
  z20 := Tryz.sizeOf20
  v20 := Tryz.zeroValue20
  t37 := Tryz.underlying40
  a37 := Tryz.isAgg40
  z37 := Tryz.sizeOf40
  v37 := Tryz.zeroValue40
  t46 := Tryz.underlying52
  a46 := Tryz.isAgg52
  z46 := Tryz.sizeOf52
  v46 := Tryz.zeroValue52
  t51 := Tryz.underlying319
  a51 := Tryz.isAgg319
  z51 := Tryz.sizeOf319
  v51 := Tryz.zeroValue319
  t53 := Tryz.underlying43
  a53 := Tryz.isAgg43
  z53 := Tryz.sizeOf43
  v53 := Tryz.zeroValue43
  t70 := Tryz.underlying39
  a70 := Tryz.isAgg39
  z70 := Tryz.sizeOf39
  v70 := Tryz.zeroValue39
  t72 := Tryz.underlying42
  a72 := Tryz.isAgg42
  z72 := Tryz.sizeOf42
  v72 := Tryz.zeroValue42
  t75 := Tryz.underlying45
  a75 := Tryz.isAgg45
  z75 := Tryz.sizeOf45
  v75 := Tryz.zeroValue45
  t76 := Tryz.underlying50
  a76 := Tryz.isAgg50
  z76 := Tryz.sizeOf50
  v76 := Tryz.zeroValue50
  t109 := Tryz.underlying404
  a109 := Tryz.isAgg404
  z109 := Tryz.sizeOf404
  v109 := Tryz.zeroValue404
  t127 := Tryz.underlying122
  a127 := Tryz.isAgg122
  z127 := Tryz.sizeOf122
  v127 := Tryz.zeroValue122
  t146 := Tryz.underlying382
  a146 := Tryz.isAgg382
  z146 := Tryz.sizeOf382
  v146 := Tryz.zeroValue382
  t148 := Tryz.underlying473
  a148 := Tryz.isAgg473
  z148 := Tryz.sizeOf473
  v148 := Tryz.zeroValue473
  t164 := Tryz.underlying181
  a164 := Tryz.isAgg181
  z164 := Tryz.sizeOf181
  v164 := Tryz.zeroValue181 }
theorem Tryz.Builder_Extra_105 : Builder.Extra Tryz.prog Tryz.lays105_ren := {
  sizeBuilder := by kernel_rfl
  liesBuilder := by kernel_rfl
  t5 := Tryz.underlying5
  a5 := Tryz.isAgg5
  z5 := Tryz.sizeOf5
  v5 := Tryz.zeroValue5
  infoByte := by kernel_rfl
  cellsByte := by kernel_rfl
  sizeByte := by kernel_rfl
  neB5 := by decide }
open Go.RowKit Go.Lib in
theorem Tryz.strings_Repeat_main (s : ByteArray) (c : Nat) (w : World) (hc2 : 2 ≤ c) (hc : c ≤ 9223372036854775807) (hlen : s.size * c ≤ 140737488355328) (h0 : 0 < s.size) :
    Calls Tryz.prog 246 #[.string s, .int .i64 c] w fun e w' => e = .returned (.string ⟨(Lib.repeatL s.data.toList c).toArray⟩) ∧ Below w.heap.size w w' := Any.strings_Repeat_main Tryz.lays105 Tryz.Builder_Extra_105 s c w hc2 hc hlen h0
open Go.RowKit Go.Lib in
theorem Tryz.strings_Repeat_zero (s : ByteArray) (w : World) :
    Calls Tryz.prog 246 #[.string s, .int .i64 0] w fun e w' => e = .returned (.string ⟨#[]⟩) ∧ w' = w := Any.strings_Repeat_zero Tryz.lays105 s w
open Go.RowKit Go.Lib in
theorem Tryz.strings_Repeat_one (s : ByteArray) (w : World) :
    Calls Tryz.prog 246 #[.string s, .int .i64 1] w fun e w' => e = .returned (.string s) ∧ w' = w := Any.strings_Repeat_one Tryz.lays105 s w
end Go.Proofs

namespace Go.Proofs
open Go.Shelf

def Tryz.lays167_ren : Go.Shelf.Ren := ⟨fun | 167 => 19 | 240 => 54 | 276 => 104 | n => n, fun | 70 => 39 | 72 => 42 | 37 => 40 | 75 => 45 | 80 => 36 | 164 => 181 | n => n, fun n => n⟩
theorem Tryz.lays167 : Go.Proofs.Lays.n167 Tryz.prog Tryz.lays167_ren := {
  mixed := by kernel_rfl
  f167 := Tryz.func19.trans (congrArg some (by kernel_rfl))
  f240 := Tryz.func54.trans (congrArg some (by kernel_rfl))
  f276 := Tryz.func104.trans (congrArg some (by kernel_rfl))
  t0 := Tryz.underlying0
  a0 := Tryz.isAgg0
  z0 := Tryz.sizeOf0
  v0 := Tryz.zeroValue0
  t4 := Tryz.underlying4
  a4 := Tryz.isAgg4
  z4 := Tryz.sizeOf4
  v4 := Tryz.zeroValue4
  t5 := Tryz.underlying5
  a5 := Tryz.isAgg5
  z5 := Tryz.sizeOf5
  v5 := Tryz.zeroValue5
  t9 := Tryz.underlying9
  a9 := Tryz.isAgg9
  z9 := Tryz.sizeOf9
  v9 := Tryz.zeroValue9
  t20 := Tryz.underlying20
  a20 := Tryz.isAgg20
  z20 := Tryz.sizeOf20
  v20 := Tryz.zeroValue20
  t37 := Tryz.underlying40
  a37 := Tryz.isAgg40
  z37 := Tryz.sizeOf40
  v37 := Tryz.zeroValue40
  t70 := Tryz.underlying39
  a70 := Tryz.isAgg39
  z70 := Tryz.sizeOf39
  v70 := Tryz.zeroValue39
  t72 := Tryz.underlying42
  a72 := Tryz.isAgg42
  z72 := Tryz.sizeOf42
  v72 := Tryz.zeroValue42
  t75 := Tryz.underlying45
  a75 := Tryz.isAgg45
  z75 := Tryz.sizeOf45
  v75 := Tryz.zeroValue45
  t164 := Tryz.underlying181
  a164 := Tryz.isAgg181
  z164 := Tryz.sizeOf181
  v164 := Tryz.zeroValue181 }
def Tryz.lays166_ren : Go.Shelf.Ren := ⟨fun | 166 => 22 | 240 => 54 | 276 => 104 | n => n, fun | 70 => 39 | 72 => 42 | 37 => 40 | 75 => 45 | 80 => 36 | 164 => 181 | n => n, fun n => n⟩
theorem Tryz.lays166 : Go.Proofs.Lays.n166 Tryz.prog Tryz.lays166_ren := {
  mixed := by kernel_rfl
  f166 := Tryz.func22.trans (congrArg some (by kernel_rfl))
  f240 := Tryz.func54.trans (congrArg some (by kernel_rfl))
  f276 := Tryz.func104.trans (congrArg some (by kernel_rfl))
  t0 := Tryz.underlying0
  a0 := Tryz.isAgg0
  z0 := Tryz.sizeOf0
  v0 := Tryz.zeroValue0
  t3 := Tryz.underlying3
  a3 := Tryz.isAgg3
  z3 := Tryz.sizeOf3
  v3 := Tryz.zeroValue3
  t4 := Tryz.underlying4
  a4 := Tryz.isAgg4
  z4 := Tryz.sizeOf4
  v4 := Tryz.zeroValue4
  t9 := Tryz.underlying9
  a9 := Tryz.isAgg9
  z9 := Tryz.sizeOf9
  v9 := Tryz.zeroValue9
  t20 := Tryz.underlying20
  a20 := Tryz.isAgg20
  z20 := Tryz.sizeOf20
  v20 := Tryz.zeroValue20
  t37 := Tryz.underlying40
  a37 := Tryz.isAgg40
  z37 := Tryz.sizeOf40
  v37 := Tryz.zeroValue40
  t70 := Tryz.underlying39
  a70 := Tryz.isAgg39
  z70 := Tryz.sizeOf39
  v70 := Tryz.zeroValue39
  t72 := Tryz.underlying42
  a72 := Tryz.isAgg42
  z72 := Tryz.sizeOf42
  v72 := Tryz.zeroValue42
  t75 := Tryz.underlying45
  a75 := Tryz.isAgg45
  z75 := Tryz.sizeOf45
  v75 := Tryz.zeroValue45
  t164 := Tryz.underlying181
  a164 := Tryz.isAgg181
  z164 := Tryz.sizeOf181
  v164 := Tryz.zeroValue181 }
theorem Tryz.Builder_Extra_166 : Builder.Extra Tryz.prog Tryz.lays166_ren := {
  sizeBuilder := by kernel_rfl
  liesBuilder := by kernel_rfl
  t5 := Tryz.underlying5
  a5 := Tryz.isAgg5
  z5 := Tryz.sizeOf5
  v5 := Tryz.zeroValue5
  infoByte := by kernel_rfl
  cellsByte := by kernel_rfl
  sizeByte := by kernel_rfl
  neB5 := by decide }
theorem Tryz.Builder_Extra_167 : Builder.Extra Tryz.prog Tryz.lays167_ren := {
  sizeBuilder := by kernel_rfl
  liesBuilder := by kernel_rfl
  t5 := Tryz.underlying5
  a5 := Tryz.isAgg5
  z5 := Tryz.sizeOf5
  v5 := Tryz.zeroValue5
  infoByte := by kernel_rfl
  cellsByte := by kernel_rfl
  sizeByte := by kernel_rfl
  neB5 := by decide }
open Go.RowKit in
theorem Tryz.Builder_WriteByte (B b : Nat) (bs : List Value) (c : Int) (w : World) (h : Lib.IsBuilder 42 5 B b bs w) (hlen : bs.length + 1 ≤ 140737488355328) (hBw : B ≤ w.heap.size) :
    Calls Tryz.prog 19 #[.pointer (some ⟨b, 0, none⟩), .int .u8 c] w fun e w' => e = .returned .nilIface ∧ (Lib.BuilderAt 42 5 B b (.pointer (some ⟨b, 0, none⟩)) (bs ++ [.int .u8 c]) w' ∧ Below B w w') := Any.Builder_WriteByte Tryz.lays167 Tryz.Builder_Extra_167 B b bs c w h hlen hBw
open Go.RowKit in
theorem Tryz.Builder_WriteString (B b : Nat) (bs : List Value) (s : ByteArray) (w : World) (h : Lib.IsBuilder 42 5 B b bs w) (hlen : bs.length + s.size ≤ 140737488355328) (hBw : B ≤ w.heap.size) :
    Calls Tryz.prog 22 #[.pointer (some ⟨b, 0, none⟩), .string s] w fun e w' => e = .returned (.tuple #[.int .i64 s.size, .nilIface]) ∧ (Lib.BuilderAt 42 5 B b (.pointer (some ⟨b, 0, none⟩)) (bs ++ Lib.strCells s) w' ∧ Below B w w') := Any.Builder_WriteString Tryz.lays166 Tryz.Builder_Extra_166 B b bs s w h hlen hBw
end Go.Proofs
