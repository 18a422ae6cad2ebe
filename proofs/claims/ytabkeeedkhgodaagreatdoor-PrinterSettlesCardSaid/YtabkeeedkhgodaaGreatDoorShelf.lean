/-
  DERIVED: THE SHELF's CONTRACTS AT THIS DUMP, IN PLAIN WORDS (tools/lay-plain.mjs out of 'TryzShelf.lean', which tools/lay-shelf.mjs wrote): THE SAME DECLARATIONS UNDER THE SAME NAMES: 'import', 'namespace', 'open', 'def', 'theorem' AND NOTHING ELSE: no command of the shelf's: FOR A HAND-IN. Each laying: the table of numbers ('.._ren') and one theorem, a field a fact of the dump's own or the kernel's comparison; each contract: ONE APPLICATION.
-/
import Derived.Shelf.Small.Strs
import Derived.Shelf.Strconv.Itoa0
import Derived.Shelf.Strconv.Itoa1
import Derived.Shelf.LaysM
import Derived.Shelf.Strconv.Itoa2
import Derived.Shelf.Strconv.Itoa3
import Derived.Shelf.Strings.Search1
import Derived.Shelf.Strings.Search2
import Derived.Shelf.Strings.Search3
import Derived.Shelf.Strings.Shaped
import Derived.Shelf.Strings.Prefix
import Derived.Test.YtabkeeedkhgodaaGreatDoorProg
namespace Go.Proofs
open Go.Shelf
def Tryz.lays137_ren : Go.Shelf.Ren := ⟨fun | 137 => 132 | 217 => 111 | 266 => 144 | n => n, fun | 9 => 9 | 5 => 5 | 3 => 3 | n => n, fun | n => n⟩
theorem Tryz.lays137 : Go.Proofs.Lays.n137 Tryz.prog Tryz.lays137_ren := {
  mixed := by kernel_rfl
  f137 := Tryz.func132.trans (congrArg some (by kernel_rfl))
  f217 := Tryz.func111.trans (congrArg some (by kernel_rfl))
  f266 := Tryz.func144.trans (congrArg some (by kernel_rfl))
  t3 := Tryz.underlying3
  a3 := Tryz.isAgg3
  z3 := Tryz.sizeOf3
  v3 := Tryz.zeroValue3
  t5 := Tryz.underlying5
  a5 := Tryz.isAgg5
  z5 := Tryz.sizeOf5
  v5 := Tryz.zeroValue5
  t9 := Tryz.underlying9
  a9 := Tryz.isAgg9
  z9 := Tryz.sizeOf9
  v9 := Tryz.zeroValue9 }
open Go.RowKit in
/-- strings.IndexByte: "IndexByte returns the index of the first instance of c in s, or -1 if c is not present in s.": IT RETURNS 'Lib.indexByte s c'; the world is as it was. (LAID: no walk: one application.) -/
theorem Tryz.strings_IndexByte (s : ByteArray) (c : Int) (w : World) :
    Calls Tryz.prog 132 #[.string s, .int .u8 c] w fun e w' => e = .returned (.int .i64 (Lib.indexByte s.data.toList c.toNat.toUInt8)) ∧ w' = w := Any.strings_IndexByte Tryz.lays137 s c w
def Tryz.lays129_ren : Go.Shelf.Ren := ⟨fun | 129 => 182 | n => n, fun | 53 => 141 | 3 => 3 | 4 => 4 | 46 => 98 | 5 => 5 | 9 => 9 | n => n, fun | n => n⟩
def Tryz.lays317_ren : Go.Shelf.Ren := ⟨fun | 317 => 181 | n => n, fun | 3 => 3 | 46 => 98 | n => n, fun | n => n⟩
def Tryz.lays318_ren : Go.Shelf.Ren := ⟨fun | 318 => 183 | n => n, fun | 3 => 3 | 4 => 4 | n => n, fun | n => n⟩
def Tryz.lays283_ren : Go.Shelf.Ren := ⟨fun | 283 => 173 | n => n, fun | 3 => 3 | 9 => 9 | 4 => 4 | n => n, fun | n => n⟩
def Tryz.laysM284_ren : Go.Shelf.Ren := ⟨fun | 284 => 174 | 129 => 182 | 317 => 181 | 318 => 183 | n => n, fun | 53 => 141 | 3 => 3 | 212 => 148 | 0 => 0 | 4 => 4 | 46 => 98 | 5 => 5 | 9 => 9 | n => n, fun | 17 => 7 | n => n⟩
def Tryz.lays285_ren : Go.Shelf.Ren := ⟨fun | 285 => 175 | n => n, fun | 37 => 57 | 53 => 141 | 3 => 3 | 4 => 4 | 51 => 124 | 9 => 9 | 5 => 5 | 0 => 0 | n => n, fun | n => n⟩
def Tryz.laysM246_ren : Go.Shelf.Ren := ⟨fun | 246 => 168 | 283 => 173 | 284 => 174 | 285 => 175 | 286 => 176 | 129 => 182 | 317 => 181 | 318 => 183 | 319 => 184 | 320 => 185 | 337 => 186 | 338 => 187 | n => n, fun | 2 => 2 | 3 => 3 | 9 => 9 | 4 => 4 | 171 => 140 | 0 => 0 | 53 => 141 | 37 => 57 | 5 => 5 | 173 => 144 | 212 => 148 | 51 => 124 | 20 => 20 | 213 => 149 | 46 => 98 | 232 => 152 | 233 => 153 | n => n, fun | 17 => 7 | 18 => 8 | 19 => 9 | n => n⟩
def Tryz.lays246_ren : Go.Shelf.Ren := ⟨fun | 246 => 168 | 283 => 173 | 284 => 174 | 285 => 175 | 286 => 176 | 129 => 182 | 317 => 181 | 318 => 183 | 319 => 184 | 320 => 185 | 337 => 186 | 338 => 187 | n => n, fun | 2 => 2 | 3 => 3 | 9 => 9 | 4 => 4 | 171 => 140 | 0 => 0 | 53 => 141 | 37 => 57 | 5 => 5 | 173 => 144 | 212 => 148 | 51 => 124 | 20 => 20 | 213 => 149 | 46 => 98 | 232 => 152 | 233 => 153 | n => n, fun | 17 => 7 | 18 => 8 | 19 => 9 | n => n⟩
def Tryz.laysM243_ren : Go.Shelf.Ren := ⟨fun | 243 => 151 | 246 => 168 | 283 => 173 | 284 => 174 | 285 => 175 | 286 => 176 | 129 => 182 | 317 => 181 | 318 => 183 | 319 => 184 | 320 => 185 | 337 => 186 | 338 => 187 | n => n, fun | 3 => 3 | 9 => 9 | 2 => 2 | 4 => 4 | 171 => 140 | 0 => 0 | 53 => 141 | 37 => 57 | 5 => 5 | 173 => 144 | 212 => 148 | 51 => 124 | 20 => 20 | 213 => 149 | 46 => 98 | 232 => 152 | 233 => 153 | n => n, fun | 17 => 7 | 18 => 8 | 19 => 9 | n => n⟩
def Tryz.lays243_ren : Go.Shelf.Ren := ⟨fun | 243 => 151 | 246 => 168 | 283 => 173 | 284 => 174 | 285 => 175 | 286 => 176 | 129 => 182 | 317 => 181 | 318 => 183 | 319 => 184 | 320 => 185 | 337 => 186 | 338 => 187 | n => n, fun | 3 => 3 | 9 => 9 | 2 => 2 | 4 => 4 | 171 => 140 | 0 => 0 | 53 => 141 | 37 => 57 | 5 => 5 | 173 => 144 | 212 => 148 | 51 => 124 | 20 => 20 | 213 => 149 | 46 => 98 | 232 => 152 | 233 => 153 | n => n, fun | 17 => 7 | 18 => 8 | 19 => 9 | n => n⟩
def Tryz.laysM171_ren : Go.Shelf.Ren := ⟨fun | 171 => 123 | 243 => 151 | 246 => 168 | 283 => 173 | 284 => 174 | 285 => 175 | 286 => 176 | 129 => 182 | 317 => 181 | 318 => 183 | 319 => 184 | 320 => 185 | 337 => 186 | 338 => 187 | n => n, fun | 3 => 3 | 9 => 9 | 2 => 2 | 4 => 4 | 171 => 140 | 0 => 0 | 53 => 141 | 37 => 57 | 5 => 5 | 173 => 144 | 212 => 148 | 51 => 124 | 20 => 20 | 213 => 149 | 46 => 98 | 232 => 152 | 233 => 153 | n => n, fun | 17 => 7 | 18 => 8 | 19 => 9 | n => n⟩
theorem Tryz.laysM171 : Go.Proofs.LaysM.n171 Tryz.prog Tryz.laysM171_ren := {
  mixed := by kernel_rfl
  f129 := Tryz.func182.trans (congrArg some (by kernel_rfl))
  f171 := Tryz.func123.trans (congrArg some (by kernel_rfl))
  f243 := Tryz.func151.trans (congrArg some (by kernel_rfl))
  f246 := Tryz.func168.trans (congrArg some (by kernel_rfl))
  f283 := Tryz.func173.trans (congrArg some (by kernel_rfl))
  f284 := Tryz.func174.trans (congrArg some (by kernel_rfl))
  f285 := Tryz.func175.trans (congrArg some (by kernel_rfl))
  f286 := Tryz.func176.trans (congrArg some (by kernel_rfl))
  f317 := Tryz.func181.trans (congrArg some (by kernel_rfl))
  f318 := Tryz.func183.trans (congrArg some (by kernel_rfl))
  f319 := Tryz.func184.trans (congrArg some (by kernel_rfl))
  f320 := Tryz.func185.trans (congrArg some (by kernel_rfl))
  f337 := Tryz.func186.trans (congrArg some (by kernel_rfl))
  f338 := Tryz.func187.trans (congrArg some (by kernel_rfl))
  t0 := Tryz.underlying0
  a0 := Tryz.isAgg0
  z0 := Tryz.sizeOf0
  v0 := Tryz.zeroValue0
  t2 := Tryz.underlying2
  a2 := Tryz.isAgg2
  z2 := Tryz.sizeOf2
  v2 := Tryz.zeroValue2
  t3 := Tryz.underlying3
  a3 := Tryz.isAgg3
  z3 := Tryz.sizeOf3
  v3 := Tryz.zeroValue3
  t4 := Tryz.underlying4
  a4 := Tryz.isAgg4
  z4 := Tryz.sizeOf4
  v4 := Tryz.zeroValue4
  t5 := Tryz.underlying5
  a5 := Tryz.isAgg5
  z5 := Tryz.sizeOf5
  v5 := Tryz.zeroValue5
  t9 := Tryz.underlying9
  a9 := Tryz.isAgg9
  z9 := Tryz.sizeOf9
  v9 := Tryz.zeroValue9
  t20 := Tryz.underlying20
  a20 := Tryz.isAgg20
  z20 := Tryz.sizeOf20
  v20 := Tryz.zeroValue20
  t37 := Tryz.underlying57
  a37 := Tryz.isAgg57
  z37 := Tryz.sizeOf57
  v37 := Tryz.zeroValue57
  t46 := Tryz.underlying98
  a46 := Tryz.isAgg98
  z46 := Tryz.sizeOf98
  v46 := Tryz.zeroValue98
  t51 := Tryz.underlying124
  a51 := Tryz.isAgg124
  z51 := Tryz.sizeOf124
  v51 := Tryz.zeroValue124
  t53 := Tryz.underlying141
  a53 := Tryz.isAgg141
  z53 := Tryz.sizeOf141
  v53 := Tryz.zeroValue141
  t171 := Tryz.underlying140
  a171 := Tryz.isAgg140
  z171 := Tryz.sizeOf140
  v171 := Tryz.zeroValue140
  t173 := Tryz.underlying144
  a173 := Tryz.isAgg144
  z173 := Tryz.sizeOf144
  v173 := Tryz.zeroValue144
  t212 := Tryz.underlying148
  a212 := Tryz.isAgg148
  z212 := Tryz.sizeOf148
  v212 := Tryz.zeroValue148
  t213 := Tryz.underlying149
  a213 := Tryz.isAgg149
  z213 := Tryz.sizeOf149
  t232 := Tryz.underlying152
  a232 := Tryz.isAgg152
  z232 := Tryz.sizeOf152
  v232 := Tryz.zeroValue152
  t233 := Tryz.underlying153
  a233 := Tryz.isAgg153
  z233 := Tryz.sizeOf153
  v233 := Tryz.zeroValue153
  g17 := by kernel_rfl
  g18 := by kernel_rfl
  g19 := by kernel_rfl
  i0 := by kernel_rfl
  i2 := by kernel_rfl
  i3 := by kernel_rfl
  i4 := by kernel_rfl
  i5 := by kernel_rfl
  i9 := by kernel_rfl
  i20 := by kernel_rfl
  i37 := by kernel_rfl
  i46 := by kernel_rfl
  i51 := by kernel_rfl
  i53 := by kernel_rfl
  i171 := by kernel_rfl
  i173 := by kernel_rfl
  i212 := by kernel_rfl
  i232 := by kernel_rfl
  i233 := by kernel_rfl
  m17 := by kernel_rfl
  m18 := by kernel_rfl
  m19 := by kernel_rfl }
open Go.RowKit Go.Sort Go.Lib in
/-- strconv.Itoa: "Itoa is equivalent to FormatInt(int64(i), 10).": i's DECIMAL NUMERAL ('Lib.itoa': a '-' where i is negative, then the digits), FOR EVERY int. The world behind the call: the world before it, new blocks behind the heap (the library's 'var a [24]byte'), draws. (LAID: no walk: one application.) -/
theorem Tryz.strconv_Itoa (n : Int) (h0 : -9223372036854775808 ≤ n) (h1 : n ≤ 9223372036854775807) (w : World) (htab : Lib.TabIs Tryz.prog w "internal/strconv.uint64pow10" .u64 Lib.pow10Tab) :
    Calls Tryz.prog 123 #[.int .i64 n] w fun e w' => e = .returned (.string ⟨(Lib.itoa n).toArray⟩) ∧ ∃ k os, w' = grow (w.drewN k) os := Any.strconv_Itoa Tryz.laysM171 n h0 h1 w htab
def Tryz.lays171_ren : Go.Shelf.Ren := ⟨fun | 171 => 123 | 243 => 151 | 246 => 168 | 283 => 173 | 284 => 174 | 285 => 175 | 286 => 176 | 129 => 182 | 317 => 181 | 318 => 183 | 319 => 184 | 320 => 185 | 337 => 186 | 338 => 187 | n => n, fun | 3 => 3 | 9 => 9 | 2 => 2 | 4 => 4 | 171 => 140 | 0 => 0 | 53 => 141 | 37 => 57 | 5 => 5 | 173 => 144 | 212 => 148 | 51 => 124 | 20 => 20 | 213 => 149 | 46 => 98 | 232 => 152 | 233 => 153 | n => n, fun | 17 => 7 | 18 => 8 | 19 => 9 | n => n⟩
def Tryz.lays217_ren : Go.Shelf.Ren := ⟨fun | 217 => 111 | 266 => 144 | n => n, fun | 9 => 9 | 5 => 5 | 3 => 3 | n => n, fun | n => n⟩
def Tryz.lays224_ren : Go.Shelf.Ren := ⟨fun | 224 => 113 | n => n, fun | 3 => 3 | n => n, fun | n => n⟩
def Tryz.lays314_ren : Go.Shelf.Ren := ⟨fun | 314 => 145 | n => n, fun | 9 => 9 | 51 => 124 | 3 => 3 | 4 => 4 | 5 => 5 | 46 => 98 | n => n, fun | n => n⟩
def Tryz.lays267_ren : Go.Shelf.Ren := ⟨fun | 267 => 114 | 314 => 145 | n => n, fun | 9 => 9 | 3 => 3 | 146 => 125 | 51 => 124 | 4 => 4 | 5 => 5 | 46 => 98 | n => n, fun | n => n⟩
def Tryz.lays219_ren : Go.Shelf.Ren := ⟨fun | 219 => 62 | 217 => 111 | 225 => 112 | 224 => 113 | 267 => 114 | 266 => 144 | 314 => 145 | n => n, fun | 9 => 9 | 3 => 3 | 4 => 4 | 5 => 5 | 46 => 98 | 146 => 125 | 51 => 124 | n => n, fun | 1 => 2 | n => n⟩
def Tryz.lays143_ren : Go.Shelf.Ren := ⟨fun | 143 => 43 | 219 => 62 | 217 => 111 | 225 => 112 | 224 => 113 | 267 => 114 | 266 => 144 | 314 => 145 | n => n, fun | 9 => 9 | 3 => 3 | 4 => 4 | 5 => 5 | 46 => 98 | 146 => 125 | 51 => 124 | n => n, fun | 1 => 2 | n => n⟩
def Tryz.lays144_ren : Go.Shelf.Ren := ⟨fun | 144 => 28 | 143 => 43 | 219 => 62 | 217 => 111 | 225 => 112 | 224 => 113 | 267 => 114 | 266 => 144 | 314 => 145 | n => n, fun | 9 => 9 | 4 => 4 | 3 => 3 | 5 => 5 | 46 => 98 | 146 => 125 | 51 => 124 | n => n, fun | 1 => 2 | n => n⟩
theorem Tryz.lays144 : Go.Proofs.Lays.n144 Tryz.prog Tryz.lays144_ren := {
  mixed := by kernel_rfl
  f143 := Tryz.func43.trans (congrArg some (by kernel_rfl))
  f144 := Tryz.func28.trans (congrArg some (by kernel_rfl))
  f217 := Tryz.func111.trans (congrArg some (by kernel_rfl))
  f219 := Tryz.func62.trans (congrArg some (by kernel_rfl))
  f224 := Tryz.func113.trans (congrArg some (by kernel_rfl))
  f225 := Tryz.func112.trans (congrArg some (by kernel_rfl))
  f266 := Tryz.func144.trans (congrArg some (by kernel_rfl))
  f267 := Tryz.func114.trans (congrArg some (by kernel_rfl))
  f314 := Tryz.func145.trans (congrArg some (by kernel_rfl))
  t3 := Tryz.underlying3
  a3 := Tryz.isAgg3
  z3 := Tryz.sizeOf3
  v3 := Tryz.zeroValue3
  t4 := Tryz.underlying4
  a4 := Tryz.isAgg4
  z4 := Tryz.sizeOf4
  v4 := Tryz.zeroValue4
  t5 := Tryz.underlying5
  a5 := Tryz.isAgg5
  z5 := Tryz.sizeOf5
  v5 := Tryz.zeroValue5
  t9 := Tryz.underlying9
  a9 := Tryz.isAgg9
  z9 := Tryz.sizeOf9
  v9 := Tryz.zeroValue9
  t46 := Tryz.underlying98
  a46 := Tryz.isAgg98
  z46 := Tryz.sizeOf98
  v46 := Tryz.zeroValue98
  t51 := Tryz.underlying124
  a51 := Tryz.isAgg124
  z51 := Tryz.sizeOf124
  v51 := Tryz.zeroValue124
  t146 := Tryz.underlying125
  a146 := Tryz.isAgg125
  z146 := Tryz.sizeOf125
  v146 := Tryz.zeroValue125
  g1 := by kernel_rfl }
open Go.RowKit Go.Lib in
/-- strings.Contains: "Contains reports whether substr is within s.": IT RETURNS 'Lib.contains s substr'; the world is as it was. (LAID: no walk: one application.) -/
theorem Tryz.strings_Contains (s sub : ByteArray) (m : Int) (w : World) (hs : s.size < 4294967281) (hm : w.cell? ⟨2, 0, none⟩ = some (.int .i64 m)) :
    Calls Tryz.prog 28 #[.string s, .string sub] w fun e w' => e = .returned (.bool (Lib.contains s.data.toList sub.data.toList)) ∧ w' = w := Any.strings_Contains Tryz.lays144 s sub m w hs hm
def Tryz.laysM219_ren : Go.Shelf.Ren := ⟨fun | 219 => 62 | 217 => 111 | 225 => 112 | 224 => 113 | 267 => 114 | 266 => 144 | 314 => 145 | n => n, fun | 9 => 9 | 3 => 3 | 4 => 4 | 5 => 5 | 46 => 98 | 146 => 125 | 51 => 124 | n => n, fun | 1 => 2 | n => n⟩
def Tryz.laysM143_ren : Go.Shelf.Ren := ⟨fun | 143 => 43 | 219 => 62 | 217 => 111 | 225 => 112 | 224 => 113 | 267 => 114 | 266 => 144 | 314 => 145 | n => n, fun | 9 => 9 | 3 => 3 | 4 => 4 | 5 => 5 | 46 => 98 | 146 => 125 | 51 => 124 | n => n, fun | 1 => 2 | n => n⟩
def Tryz.laysM144_ren : Go.Shelf.Ren := ⟨fun | 144 => 28 | 143 => 43 | 219 => 62 | 217 => 111 | 225 => 112 | 224 => 113 | 267 => 114 | 266 => 144 | 314 => 145 | n => n, fun | 9 => 9 | 4 => 4 | 3 => 3 | 5 => 5 | 46 => 98 | 146 => 125 | 51 => 124 | n => n, fun | 1 => 2 | n => n⟩
theorem Tryz.laysM144 : Go.Proofs.LaysM.n144 Tryz.prog Tryz.laysM144_ren := {
  mixed := by kernel_rfl
  f143 := Tryz.func43.trans (congrArg some (by kernel_rfl))
  f144 := Tryz.func28.trans (congrArg some (by kernel_rfl))
  f217 := Tryz.func111.trans (congrArg some (by kernel_rfl))
  f219 := Tryz.func62.trans (congrArg some (by kernel_rfl))
  f224 := Tryz.func113.trans (congrArg some (by kernel_rfl))
  f225 := Tryz.func112.trans (congrArg some (by kernel_rfl))
  f266 := Tryz.func144.trans (congrArg some (by kernel_rfl))
  f267 := Tryz.func114.trans (congrArg some (by kernel_rfl))
  f314 := Tryz.func145.trans (congrArg some (by kernel_rfl))
  t3 := Tryz.underlying3
  a3 := Tryz.isAgg3
  z3 := Tryz.sizeOf3
  v3 := Tryz.zeroValue3
  t4 := Tryz.underlying4
  a4 := Tryz.isAgg4
  z4 := Tryz.sizeOf4
  v4 := Tryz.zeroValue4
  t5 := Tryz.underlying5
  a5 := Tryz.isAgg5
  z5 := Tryz.sizeOf5
  v5 := Tryz.zeroValue5
  t9 := Tryz.underlying9
  a9 := Tryz.isAgg9
  z9 := Tryz.sizeOf9
  v9 := Tryz.zeroValue9
  t46 := Tryz.underlying98
  a46 := Tryz.isAgg98
  z46 := Tryz.sizeOf98
  v46 := Tryz.zeroValue98
  t51 := Tryz.underlying124
  a51 := Tryz.isAgg124
  z51 := Tryz.sizeOf124
  v51 := Tryz.zeroValue124
  t146 := Tryz.underlying125
  a146 := Tryz.isAgg125
  z146 := Tryz.sizeOf125
  v146 := Tryz.zeroValue125
  g1 := by kernel_rfl
  i3 := by kernel_rfl
  i4 := by kernel_rfl
  i5 := by kernel_rfl
  i9 := by kernel_rfl
  i46 := by kernel_rfl
  i51 := by kernel_rfl
  i146 := by kernel_rfl
  m1 := by kernel_rfl
  s1_3 := fun w h => Go.Proofs.cell_of_shapedOpen_int (zero := #[.int .i64 0]) (t := 3) h (of_decide_eq_true (by kernel_rfl)) (by kernel_rfl) rfl (by kernel_rfl) (by kernel_rfl) Tryz.underlying3 }
def Tryz.lays206_ren : Go.Shelf.Ren := ⟨fun | 206 => 44 | n => n, fun | 9 => 9 | 4 => 4 | 3 => 3 | n => n, fun | n => n⟩
def Tryz.lays99_ren : Go.Shelf.Ren := ⟨fun | 99 => 29 | 206 => 44 | n => n, fun | 9 => 9 | 4 => 4 | 3 => 3 | n => n, fun | n => n⟩
theorem Tryz.lays99 : Go.Proofs.Lays.n99 Tryz.prog Tryz.lays99_ren := {
  mixed := by kernel_rfl
  f99 := Tryz.func29.trans (congrArg some (by kernel_rfl))
  f206 := Tryz.func44.trans (congrArg some (by kernel_rfl))
  t3 := Tryz.underlying3
  a3 := Tryz.isAgg3
  z3 := Tryz.sizeOf3
  v3 := Tryz.zeroValue3
  t4 := Tryz.underlying4
  a4 := Tryz.isAgg4
  z4 := Tryz.sizeOf4
  v4 := Tryz.zeroValue4
  t9 := Tryz.underlying9
  a9 := Tryz.isAgg9
  z9 := Tryz.sizeOf9
  v9 := Tryz.zeroValue9 }
open Go.RowKit Go.Lib in
/-- strings.HasPrefix: "HasPrefix reports whether the string s begins with prefix.": IT RETURNS 'Lib.hasPrefix s prefix'; the world is as it was. (LAID: no walk: one application.) -/
theorem Tryz.strings_HasPrefix (s p : ByteArray) (w : World) :
    Calls Tryz.prog 29 #[.string s, .string p] w fun e w' => e = .returned (.bool (Lib.hasPrefix s.data.toList p.data.toList)) ∧ w' = w := Any.strings_HasPrefix Tryz.lays99 s p w
def Tryz.lays207_ren : Go.Shelf.Ren := ⟨fun | 207 => 41 | n => n, fun | 9 => 9 | 4 => 4 | 3 => 3 | n => n, fun | n => n⟩
def Tryz.lays100_ren : Go.Shelf.Ren := ⟨fun | 100 => 26 | 207 => 41 | n => n, fun | 9 => 9 | 4 => 4 | 3 => 3 | n => n, fun | n => n⟩
def Tryz.lays209_ren : Go.Shelf.Ren := ⟨fun | 209 => 42 | 207 => 41 | n => n, fun | 9 => 9 | 4 => 4 | 3 => 3 | n => n, fun | n => n⟩
def Tryz.lays102_ren : Go.Shelf.Ren := ⟨fun | 102 => 27 | 209 => 42 | 207 => 41 | n => n, fun | 9 => 9 | 4 => 4 | 3 => 3 | n => n, fun | n => n⟩
end Go.Proofs
