/-
  The contract of strings.Replace of the library, laid at this program (written by the kit tool lay-plain.mjs).
-/
import Derived.Shelf.Strings.Replace
import Derived.Shelf.Strings.Builder1
import Derived.Test.YtncoklpecffokaaGreatDoorProg
namespace Go.Proofs
open Go.Shelf
def Tryz.lays154_ren : Go.Shelf.Ren := ⟨fun | 154 => 184 | 138 => 214 | 165 => 173 | 143 => 215 | 166 => 174 | 197 => 144 | 169 => 176 | 195 => 236 | 218 => 237 | 240 => 206 | 241 => 207 | 219 => 217 | 260 => 182 | 276 => 232 | 277 => 233 | 217 => 183 | 225 => 239 | 224 => 240 | 267 => 241 | 266 => 213 | 314 => 252 | n => n, fun | 9 => 9 | 3 => 3 | 4 => 4 | 72 => 216 | 0 => 0 | 76 => 218 | 105 => 187 | 21 => 21 | 5 => 5 | 70 => 214 | 20 => 20 | 37 => 115 | 75 => 170 | 127 => 244 | 164 => 266 | 46 => 69 | 119 => 249 | 139 => 252 | 138 => 251 | 146 => 242 | 51 => 99 | 80 => 221 | n => n, fun | 1 => 2 | 3 => 6 | 4 => 7 | n => n⟩
theorem Tryz.lays154 : Go.Proofs.Lays.n154 Tryz.prog Tryz.lays154_ren := {
  mixed := by kernel_rfl
  f138 := Tryz.func214.trans (congrArg some (by kernel_rfl))
  f143 := Tryz.func215.trans (congrArg some (by kernel_rfl))
  f154 := Tryz.func184.trans (congrArg some (by kernel_rfl))
  f165 := Tryz.func173.trans (congrArg some (by kernel_rfl))
  f166 := Tryz.func174.trans (congrArg some (by kernel_rfl))
  f169 := Tryz.func176.trans (congrArg some (by kernel_rfl))
  f195 := Tryz.func236.trans (congrArg some (by kernel_rfl))
  f197 := Tryz.func144.trans (congrArg some (by kernel_rfl))
  f217 := Tryz.func183.trans (congrArg some (by kernel_rfl))
  f218 := Tryz.func237.trans (congrArg some (by kernel_rfl))
  f219 := Tryz.func217.trans (congrArg some (by kernel_rfl))
  f224 := Tryz.func240.trans (congrArg some (by kernel_rfl))
  f225 := Tryz.func239.trans (congrArg some (by kernel_rfl))
  f240 := Tryz.func206.trans (congrArg some (by kernel_rfl))
  f241 := Tryz.func207.trans (congrArg some (by kernel_rfl))
  f260 := Tryz.func182.trans (congrArg some (by kernel_rfl))
  f266 := Tryz.func213.trans (congrArg some (by kernel_rfl))
  f267 := Tryz.func241.trans (congrArg some (by kernel_rfl))
  f276 := Tryz.func232.trans (congrArg some (by kernel_rfl))
  f277 := Tryz.func233.trans (congrArg some (by kernel_rfl))
  f314 := Tryz.func252.trans (congrArg some (by kernel_rfl))
  t0 := Tryz.underlying0
  a0 := Tryz.isAgg0
  z0 := Tryz.sizeOf0
  v0 := Tryz.zeroValue0
  t3 := Tryz.underlying3
  a3 := Tryz.isAgg3
  z3 := Tryz.sizeOf3
  v3 := Tryz.zeroValue3
  t4 := Tryz.underlying4
  a4 := Tryz.isAgg4
  z4 := Tryz.sizeOf4
  v4 := Tryz.zeroValue4
  t5 := Tryz.underlying5
  a5 := Tryz.isAgg5
  z5 := Tryz.sizeOf5
  v5 := Tryz.zeroValue5
  t9 := Tryz.underlying9
  a9 := Tryz.isAgg9
  z9 := Tryz.sizeOf9
  v9 := Tryz.zeroValue9
  t20 := Tryz.underlying20
  a20 := Tryz.isAgg20
  z20 := Tryz.sizeOf20
  v20 := Tryz.zeroValue20
  t21 := Tryz.underlying21
  a21 := Tryz.isAgg21
  z21 := Tryz.sizeOf21
  v21 := Tryz.zeroValue21
  t37 := Tryz.underlying115
  a37 := Tryz.isAgg115
  z37 := Tryz.sizeOf115
  v37 := Tryz.zeroValue115
  t46 := Tryz.underlying69
  a46 := Tryz.isAgg69
  z46 := Tryz.sizeOf69
  v46 := Tryz.zeroValue69
  t51 := Tryz.underlying99
  a51 := Tryz.isAgg99
  z51 := Tryz.sizeOf99
  v51 := Tryz.zeroValue99
  t70 := Tryz.underlying214
  a70 := Tryz.isAgg214
  z70 := Tryz.sizeOf214
  v70 := Tryz.zeroValue214
  t72 := Tryz.underlying216
  a72 := Tryz.isAgg216
  z72 := Tryz.sizeOf216
  v72 := Tryz.zeroValue216
  t75 := Tryz.underlying170
  a75 := Tryz.isAgg170
  z75 := Tryz.sizeOf170
  v75 := Tryz.zeroValue170
  t76 := Tryz.underlying218
  a76 := Tryz.isAgg218
  z76 := Tryz.sizeOf218
  v76 := Tryz.zeroValue218
  t105 := Tryz.underlying187
  a105 := Tryz.isAgg187
  z105 := Tryz.sizeOf187
  v105 := Tryz.zeroValue187
  t119 := Tryz.underlying249
  a119 := Tryz.isAgg249
  z119 := Tryz.sizeOf249
  t127 := Tryz.underlying244
  a127 := Tryz.isAgg244
  z127 := Tryz.sizeOf244
  v127 := Tryz.zeroValue244
  t138 := Tryz.underlying251
  a138 := Tryz.isAgg251
  z138 := Tryz.sizeOf251
  v138 := Tryz.zeroValue251
  t139 := Tryz.underlying252
  a139 := Tryz.isAgg252
  z139 := Tryz.sizeOf252
  v139 := Tryz.zeroValue252
  t146 := Tryz.underlying242
  a146 := Tryz.isAgg242
  z146 := Tryz.sizeOf242
  v146 := Tryz.zeroValue242
  t164 := Tryz.underlying266
  a164 := Tryz.isAgg266
  z164 := Tryz.sizeOf266
  v164 := Tryz.zeroValue266
  g1 := by kernel_rfl
  g3 := by kernel_rfl
  g4 := by kernel_rfl }
theorem Tryz.Builder_Extra_154 : Builder.Extra Tryz.prog Tryz.lays154_ren := {
  sizeBuilder := by kernel_rfl
  liesBuilder := by kernel_rfl
  t5 := Tryz.underlying5
  a5 := Tryz.isAgg5
  z5 := Tryz.sizeOf5
  v5 := Tryz.zeroValue5
  infoByte := by kernel_rfl
  cellsByte := by kernel_rfl
  sizeByte := by kernel_rfl
  neB5 := by decide }
open Go.RowKit Go.Lib in
/-- strings.Replace: "Replace returns a copy of the string s with the first n non-overlapping instances of old replaced by new. .. If n < 0, there is no limit on the number of replacements.": AT AN old THAT IS NOT EMPTY: IT RETURNS 'Lib.replace s old new n'. Below the heap's end the world is as it was. IT ASKS, as strings.Index's contract: 'len(s) < 4294967281', 'hm'; and that what comes out has room: 'len(s) + Count(s, old) * len(new) ≤ 2^47'. (LAID: no walk: one application.) -/
theorem Tryz.strings_Replace (s old new : ByteArray) (n : Int) (m : Int) (w : World) (hs : s.size < 4294967281) (hm : w.cell? ⟨2, 0, none⟩ = some (.int .i64 m)) (h1 : 1 ≤ old.size) (hlen : s.size + Lib.countB s old * new.size ≤ 140737488355328) :
    Calls Tryz.prog 184 #[.string s, .string old, .string new, .int .i64 n] w fun e w' =>
      e = .returned (.string ⟨(Lib.replace s.data.toList old.data.toList new.data.toList n).toArray⟩) ∧ Below w.heap.size w w' := Any.strings_Replace Tryz.lays154 Tryz.Builder_Extra_154 s old new n m w hs hm h1 hlen
end Go.Proofs
