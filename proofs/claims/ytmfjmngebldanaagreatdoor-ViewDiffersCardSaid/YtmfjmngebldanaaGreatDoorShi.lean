/-
  DERIVED: THE SHELF's CONTRACTS AT THIS DUMP, IN PLAIN WORDS (tools/lay-plain.mjs out of 'TryzShelfSel.lean', which tools/lay-shelf.mjs wrote): THE SAME DECLARATIONS UNDER THE SAME NAMES: 'import', 'namespace', 'open', 'def', 'theorem' AND NOTHING ELSE: no command of the shelf's: FOR A HAND-IN. Each laying: the table of numbers ('.._ren') and one theorem, a field a fact of the dump's own or the kernel's comparison; each contract: ONE APPLICATION.
-/
import Derived.Shelf.Strings.Builder1
import Derived.Shelf.Strings.Builder2
import Derived.Shelf.Strings.Trim
import Derived.Shelf.Small.Utf8
import Derived.Shelf.Small.Bits
import Derived.Shelf.Small.Strs
import Derived.Shelf.Small.Wraps
import Derived.Shelf.Strings.BuilderF
import Derived.Shelf.Strings.BuilderK
import Derived.Shelf.Strings.Builder2Cap
import Derived.Shelf.Strconv.Atoi
import Derived.Shelf.Strconv.Itoa0
import Derived.Shelf.Strconv.Itoa1
import Derived.Shelf.LaysM
import Derived.Shelf.Strconv.Itoa2
import Derived.Shelf.Strconv.Itoa3
import Derived.Shelf.Strconv.AtoiErrFast
import Derived.Shelf.Strconv.ParseIntEmpty
import Derived.Shelf.Strconv.AtoiFail
import Derived.Shelf.Strconv.Clone
import Derived.Shelf.Strconv.SyntaxError
import Derived.Shelf.LaysC
import Derived.Shelf.Strconv.ToError
import Derived.Shelf.Strconv.Lower
import Derived.Shelf.Strconv.ParseUint10
import Derived.Shelf.Strconv.ParseUint10Empty
import Derived.Shelf.Strconv.ParseUint10Any
import Derived.Shelf.Strconv.ParseInt10
import Derived.Shelf.Strconv.AtoiLong
import Derived.Shelf.Strconv.AtoiInnerAll
import Derived.Shelf.Strconv.RangeError
import Derived.Shelf.Strconv.ToErrorRange
import Derived.Shelf.Strconv.AtoiAll
import Derived.Shelf.Strconv.ErrVarAll
import Derived.Shelf.Strconv.ParseUintEmpty
import Derived.Shelf.Strconv.ParseUint10b64
import Derived.Shelf.Strconv.ParseUint10b32
import Derived.Shelf.Strconv.ParseUint10b16
import Derived.Shelf.Strconv.ParseUint10b8
import Derived.Shelf.Strconv.ParseUint10At
import Derived.Shelf.Strconv.ParseInt10At64
import Derived.Shelf.Strconv.ParseInt10At32
import Derived.Shelf.Strconv.ParseInt10At16
import Derived.Shelf.Strconv.ParseInt10At8
import Derived.Shelf.Strconv.ParseInt10All
import Derived.Ground.MpProg
import Derived.Shelf.Pu.ParseUintPublic10
import Derived.Shelf.Strings.Search1
import Derived.Shelf.Strings.Search2
import Derived.Shelf.Strings.Cut
import Derived.Shelf.Strings.Shaped
import Derived.Shelf.Strings.Prefix
import Derived.Shelf.Strings.Runes
import Derived.Shelf.Strings.AsciiSet
import Derived.Shelf.Bits.Mul64
import Derived.Shelf.Strings.Repeat
import Derived.Shelf.Unicode.DecodeSlow
import Derived.Shelf.Strings.BuilderCap
import Derived.Ground.SlgnProg
import Derived.Shelf.SlicesG.Equal
import Derived.Shelf.SlicesG.CompactS
import Derived.Ground.SlgmProg
import Derived.Shelf.SortM.Plain
import Derived.Shelf.SortM.SortNone
import Derived.Lib.AppendIntMem
import Derived.Test.YtmfjmngebldanaaGreatDoorProg
import Derived.Test.YtmfjmngebldanaaGreatDoorShelf
namespace Go.Proofs
open Go.Shelf
def Tryz.lays169_ren : Go.Shelf.Ren := ⟨fun | 169 => 215 | n => n, fun | 70 => 230 | 9 => 9 | 0 => 0 | 72 => 232 | 37 => 137 | 127 => 255 | 3 => 3 | 5 => 5 | n => n, fun | n => n⟩
theorem Tryz.lays169 : Go.Proofs.Lays.n169 Tryz.prog Tryz.lays169_ren := {
  mixed := by kernel_rfl
  f169 := Tryz.func215.trans (congrArg some (by kernel_rfl))
  t0 := Tryz.underlying0
  a0 := Tryz.isAgg0
  z0 := Tryz.sizeOf0
  v0 := Tryz.zeroValue0
  t3 := Tryz.underlying3
  a3 := Tryz.isAgg3
  z3 := Tryz.sizeOf3
  v3 := Tryz.zeroValue3
  t9 := Tryz.underlying9
  a9 := Tryz.isAgg9
  z9 := Tryz.sizeOf9
  v9 := Tryz.zeroValue9
  t37 := Tryz.underlying137
  a37 := Tryz.isAgg137
  z37 := Tryz.sizeOf137
  v37 := Tryz.zeroValue137
  t70 := Tryz.underlying230
  a70 := Tryz.isAgg230
  z70 := Tryz.sizeOf230
  v70 := Tryz.zeroValue230
  t72 := Tryz.underlying232
  a72 := Tryz.isAgg232
  z72 := Tryz.sizeOf232
  v72 := Tryz.zeroValue232
  t127 := Tryz.underlying255
  a127 := Tryz.isAgg255
  z127 := Tryz.sizeOf255
  v127 := Tryz.zeroValue255 }
theorem Tryz.Builder_Extra_169 : Builder.Extra Tryz.prog Tryz.lays169_ren := {
  sizeBuilder := by kernel_rfl
  liesBuilder := by kernel_rfl
  t5 := Tryz.underlying5
  a5 := Tryz.isAgg5
  z5 := Tryz.sizeOf5
  v5 := Tryz.zeroValue5
  infoByte := by kernel_rfl
  cellsByte := by kernel_rfl
  sizeByte := by kernel_rfl
  neB5 := by decide }
open Go.RowKit in
theorem Tryz.Builder_String_any (B b : Nat) (l : List UInt8) (w : World) (h : Lib.IsBuilder 232 5 B b (Lib.byteCells l) w) (hBw : B ≤ w.heap.size) :
    Calls Tryz.prog 215 #[.pointer (some ⟨b, 0, none⟩)] w fun e w' => e = .returned (.string ⟨l.toArray⟩) ∧ Below B w w' := Any.Builder_String_any Tryz.lays169 Tryz.Builder_Extra_169 B b l w h hBw
def Tryz.lays283_ren : Go.Shelf.Ren := ⟨fun | 283 => 265 | n => n, fun | 3 => 3 | 9 => 9 | 4 => 4 | n => n, fun | n => n⟩
theorem Tryz.lays283 : Go.Proofs.Lays.n283 Tryz.prog Tryz.lays283_ren := {
  mixed := by kernel_rfl
  f283 := Tryz.func265.trans (congrArg some (by kernel_rfl))
  t3 := Tryz.underlying3
  a3 := Tryz.isAgg3
  z3 := Tryz.sizeOf3
  v3 := Tryz.zeroValue3
  t4 := Tryz.underlying4
  a4 := Tryz.isAgg4
  z4 := Tryz.sizeOf4
  v4 := Tryz.zeroValue4
  t9 := Tryz.underlying9
  a9 := Tryz.isAgg9
  z9 := Tryz.sizeOf9
  v9 := Tryz.zeroValue9 }
open Go.Lib in
theorem Tryz.internal_strconv_small (i : Nat) (h : i < 100) (w : World) :
    Calls Tryz.prog 265 #[.int .i64 i] w fun e w' => e = .returned (.string ⟨(Lib.decDigits i).toArray⟩) ∧ w' = w := Any.internal_strconv_small Tryz.lays283 i h w
def Tryz.laysM284_ren : Go.Shelf.Ren := ⟨fun | 284 => 266 | 129 => 94 | 317 => 281 | 318 => 282 | n => n, fun | 53 => 127 | 3 => 3 | 212 => 290 | 0 => 0 | 4 => 4 | 46 => 85 | 5 => 5 | 9 => 9 | n => n, fun | 17 => 5 | n => n⟩
theorem Tryz.laysM284 : Go.Proofs.LaysM.n284 Tryz.prog Tryz.laysM284_ren := {
  mixed := by kernel_rfl
  f129 := Tryz.func94.trans (congrArg some (by kernel_rfl))
  f284 := Tryz.func266.trans (congrArg some (by kernel_rfl))
  f317 := Tryz.func281.trans (congrArg some (by kernel_rfl))
  f318 := Tryz.func282.trans (congrArg some (by kernel_rfl))
  t0 := Tryz.underlying0
  a0 := Tryz.isAgg0
  z0 := Tryz.sizeOf0
  v0 := Tryz.zeroValue0
  t3 := Tryz.underlying3
  a3 := Tryz.isAgg3
  z3 := Tryz.sizeOf3
  v3 := Tryz.zeroValue3
  t4 := Tryz.underlying4
  a4 := Tryz.isAgg4
  z4 := Tryz.sizeOf4
  v4 := Tryz.zeroValue4
  t5 := Tryz.underlying5
  a5 := Tryz.isAgg5
  z5 := Tryz.sizeOf5
  v5 := Tryz.zeroValue5
  t9 := Tryz.underlying9
  a9 := Tryz.isAgg9
  z9 := Tryz.sizeOf9
  v9 := Tryz.zeroValue9
  t46 := Tryz.underlying85
  a46 := Tryz.isAgg85
  z46 := Tryz.sizeOf85
  v46 := Tryz.zeroValue85
  t53 := Tryz.underlying127
  a53 := Tryz.isAgg127
  z53 := Tryz.sizeOf127
  v53 := Tryz.zeroValue127
  t212 := Tryz.underlying290
  a212 := Tryz.isAgg290
  z212 := Tryz.sizeOf290
  v212 := Tryz.zeroValue290
  g17 := by kernel_rfl
  i0 := by kernel_rfl
  i3 := by kernel_rfl
  i4 := by kernel_rfl
  i5 := by kernel_rfl
  i9 := by kernel_rfl
  i46 := by kernel_rfl
  i53 := by kernel_rfl
  i212 := by kernel_rfl
  m17 := by kernel_rfl }
open Go.Lib in
theorem Tryz.internal_strconv_numDigits (u : Nat) (h1 : 1 ≤ u) (h2 : u < 18446744073709551616) (w : World) (htab : Lib.TabIs Tryz.prog w "internal/strconv.uint64pow10" .u64 Lib.pow10Tab) :
    Calls Tryz.prog 266 #[.int .u64 u] w fun e w' => e = .returned (.int .i64 (Lib.nDigits u)) ∧ w' = w := Any.internal_strconv_numDigits Tryz.laysM284 u h1 h2 w htab
def Tryz.lays285_ren : Go.Shelf.Ren := ⟨fun | 285 => 267 | n => n, fun | 37 => 137 | 53 => 127 | 3 => 3 | 4 => 4 | 51 => 125 | 9 => 9 | 5 => 5 | 0 => 0 | n => n, fun | n => n⟩
theorem Tryz.lays285 : Go.Proofs.Lays.n285 Tryz.prog Tryz.lays285_ren := {
  mixed := by kernel_rfl
  f285 := Tryz.func267.trans (congrArg some (by kernel_rfl))
  t0 := Tryz.underlying0
  a0 := Tryz.isAgg0
  z0 := Tryz.sizeOf0
  v0 := Tryz.zeroValue0
  t3 := Tryz.underlying3
  a3 := Tryz.isAgg3
  z3 := Tryz.sizeOf3
  v3 := Tryz.zeroValue3
  t4 := Tryz.underlying4
  a4 := Tryz.isAgg4
  z4 := Tryz.sizeOf4
  v4 := Tryz.zeroValue4
  t5 := Tryz.underlying5
  a5 := Tryz.isAgg5
  z5 := Tryz.sizeOf5
  v5 := Tryz.zeroValue5
  t9 := Tryz.underlying9
  a9 := Tryz.isAgg9
  z9 := Tryz.sizeOf9
  v9 := Tryz.zeroValue9
  t37 := Tryz.underlying137
  a37 := Tryz.isAgg137
  z37 := Tryz.sizeOf137
  v37 := Tryz.zeroValue137
  t51 := Tryz.underlying125
  a51 := Tryz.isAgg125
  z51 := Tryz.sizeOf125
  v51 := Tryz.zeroValue125
  t53 := Tryz.underlying127
  a53 := Tryz.isAgg127
  z53 := Tryz.sizeOf127
  v53 := Tryz.zeroValue127 }
open Go.RowKit Go.Sort Go.Lib in
theorem Tryz.internal_strconv_formatBase10 (blk off cap : Nat) (u : Nat) (d : Array UInt8) (w : World) (hH : Holds (fun (b : UInt8) => Value.int .u8 (b.toNat : Int)) w blk off d) (hu : u < 10 ^ d.size) (hu64 : u < 18446744073709551616) (hsz : d.size < 4611686018427387904) :
    Calls Tryz.prog 267 #[.slice (some ⟨blk, off, none⟩) d.size cap, .int .u64 u] w fun e w' =>
      e = .returned (.tuple #[]) ∧ ∃ (n v' : Nat) (dk : Array UInt8), w' = (putRow (fun (b : UInt8) => Value.int .u8 (b.toNat : Int)) w blk off dk).drewN n ∧ FmtInv d.size u 0 v' dk := Any.internal_strconv_formatBase10 Tryz.lays285 blk off cap u d w hH hu hu64 hsz
def Tryz.laysPu14_ren : Go.Shelf.Ren := ⟨fun | 14 => 209 | 16 => 245 | 17 => 204 | 19 => 270 | 20 => 271 | 21 => 237 | 22 => 238 | 23 => 239 | 24 => 240 | 25 => 263 | 27 => 176 | 26 => 264 | 28 => 205 | 29 => 241 | 30 => 265 | 31 => 266 | 32 => 267 | 33 => 268 | 35 => 94 | 34 => 281 | 36 => 282 | 37 => 283 | 38 => 284 | 39 => 287 | 40 => 288 | n => n, fun | 9 => 9 | 3 => 3 | 22 => 127 | 24 => 192 | 25 => 227 | 4 => 4 | 34 => 243 | 5 => 5 | 36 => 85 | 37 => 137 | 0 => 0 | 39 => 246 | 21 => 21 | 44 => 269 | 47 => 255 | 50 => 288 | 48 => 286 | 2 => 2 | 52 => 271 | 55 => 273 | 59 => 290 | 60 => 125 | 20 => 20 | 61 => 291 | 65 => 295 | 66 => 296 | 67 => 236 | n => n, fun | 0 => 3 | 1 => 4 | 2 => 5 | 3 => 6 | 4 => 7 | n => n⟩
theorem Tryz.laysPu14 : Go.Proofs.LaysPu.n14 Tryz.prog Tryz.laysPu14_ren := {
  mixed := by kernel_rfl
  f14 := Tryz.func209.trans (congrArg some (by kernel_rfl))
  f16 := Tryz.func245.trans (congrArg some (by kernel_rfl))
  f17 := Tryz.func204.trans (congrArg some (by kernel_rfl))
  f19 := Tryz.func270.trans (congrArg some (by kernel_rfl))
  f20 := Tryz.func271.trans (congrArg some (by kernel_rfl))
  f21 := Tryz.func237.trans (congrArg some (by kernel_rfl))
  f22 := Tryz.func238.trans (congrArg some (by kernel_rfl))
  f23 := Tryz.func239.trans (congrArg some (by kernel_rfl))
  f24 := Tryz.func240.trans (congrArg some (by kernel_rfl))
  f25 := Tryz.func263.trans (congrArg some (by kernel_rfl))
  f26 := Tryz.func264.trans (congrArg some (by kernel_rfl))
  f27 := Tryz.func176.trans (congrArg some (by kernel_rfl))
  f28 := Tryz.func205.trans (congrArg some (by kernel_rfl))
  f29 := Tryz.func241.trans (congrArg some (by kernel_rfl))
  f30 := Tryz.func265.trans (congrArg some (by kernel_rfl))
  f31 := Tryz.func266.trans (congrArg some (by kernel_rfl))
  f32 := Tryz.func267.trans (congrArg some (by kernel_rfl))
  f33 := Tryz.func268.trans (congrArg some (by kernel_rfl))
  f34 := Tryz.func281.trans (congrArg some (by kernel_rfl))
  f35 := Tryz.func94.trans (congrArg some (by kernel_rfl))
  f36 := Tryz.func282.trans (congrArg some (by kernel_rfl))
  f37 := Tryz.func283.trans (congrArg some (by kernel_rfl))
  f38 := Tryz.func284.trans (congrArg some (by kernel_rfl))
  f39 := Tryz.func287.trans (congrArg some (by kernel_rfl))
  f40 := Tryz.func288.trans (congrArg some (by kernel_rfl))
  t0 := Tryz.underlying0
  a0 := Tryz.isAgg0
  z0 := Tryz.sizeOf0
  v0 := Tryz.zeroValue0
  i0 := by kernel_rfl
  t2 := Tryz.underlying2
  a2 := Tryz.isAgg2
  z2 := Tryz.sizeOf2
  v2 := Tryz.zeroValue2
  i2 := by kernel_rfl
  t3 := Tryz.underlying3
  a3 := Tryz.isAgg3
  z3 := Tryz.sizeOf3
  v3 := Tryz.zeroValue3
  i3 := by kernel_rfl
  t4 := Tryz.underlying4
  a4 := Tryz.isAgg4
  z4 := Tryz.sizeOf4
  v4 := Tryz.zeroValue4
  i4 := by kernel_rfl
  t5 := Tryz.underlying5
  a5 := Tryz.isAgg5
  z5 := Tryz.sizeOf5
  v5 := Tryz.zeroValue5
  i5 := by kernel_rfl
  t9 := Tryz.underlying9
  a9 := Tryz.isAgg9
  z9 := Tryz.sizeOf9
  v9 := Tryz.zeroValue9
  i9 := by kernel_rfl
  t20 := Tryz.underlying20
  a20 := Tryz.isAgg20
  z20 := Tryz.sizeOf20
  v20 := Tryz.zeroValue20
  i20 := by kernel_rfl
  t21 := Tryz.underlying21
  a21 := Tryz.isAgg21
  z21 := Tryz.sizeOf21
  v21 := Tryz.zeroValue21
  i21 := by kernel_rfl
  t22 := Tryz.underlying127
  a22 := Tryz.isAgg127
  z22 := Tryz.sizeOf127
  v22 := Tryz.zeroValue127
  i22 := by kernel_rfl
  t24 := Tryz.underlying192
  a24 := Tryz.isAgg192
  z24 := Tryz.sizeOf192
  v24 := Tryz.zeroValue192
  i24 := by kernel_rfl
  t25 := Tryz.underlying227
  a25 := Tryz.isAgg227
  z25 := Tryz.sizeOf227
  v25 := Tryz.zeroValue227
  i25 := by kernel_rfl
  t34 := Tryz.underlying243
  a34 := Tryz.isAgg243
  z34 := Tryz.sizeOf243
  v34 := Tryz.zeroValue243
  i34 := by kernel_rfl
  c34 := by kernel_rfl
  t36 := Tryz.underlying85
  a36 := Tryz.isAgg85
  z36 := Tryz.sizeOf85
  v36 := Tryz.zeroValue85
  i36 := by kernel_rfl
  t37 := Tryz.underlying137
  a37 := Tryz.isAgg137
  z37 := Tryz.sizeOf137
  v37 := Tryz.zeroValue137
  i37 := by kernel_rfl
  t39 := Tryz.underlying246
  a39 := Tryz.isAgg246
  z39 := Tryz.sizeOf246
  v39 := Tryz.zeroValue246
  i39 := by kernel_rfl
  t44 := Tryz.underlying269
  a44 := Tryz.isAgg269
  z44 := Tryz.sizeOf269
  v44 := Tryz.zeroValue269
  i44 := by kernel_rfl
  t47 := Tryz.underlying255
  a47 := Tryz.isAgg255
  z47 := Tryz.sizeOf255
  v47 := Tryz.zeroValue255
  i47 := by kernel_rfl
  t48 := Tryz.underlying286
  a48 := Tryz.isAgg286
  z48 := Tryz.sizeOf286
  v48 := Tryz.zeroValue286
  i48 := by kernel_rfl
  t50 := Tryz.underlying288
  a50 := Tryz.isAgg288
  z50 := Tryz.sizeOf288
  v50 := Tryz.zeroValue288
  i50 := by kernel_rfl
  t52 := Tryz.underlying271
  a52 := Tryz.isAgg271
  z52 := Tryz.sizeOf271
  v52 := Tryz.zeroValue271
  i52 := by kernel_rfl
  t55 := Tryz.underlying273
  a55 := Tryz.isAgg273
  z55 := Tryz.sizeOf273
  v55 := Tryz.zeroValue273
  i55 := by kernel_rfl
  t59 := Tryz.underlying290
  a59 := Tryz.isAgg290
  z59 := Tryz.sizeOf290
  v59 := Tryz.zeroValue290
  i59 := by kernel_rfl
  t60 := Tryz.underlying125
  a60 := Tryz.isAgg125
  z60 := Tryz.sizeOf125
  v60 := Tryz.zeroValue125
  i60 := by kernel_rfl
  t61 := Tryz.underlying291
  a61 := Tryz.isAgg291
  z61 := Tryz.sizeOf291
  t65 := Tryz.underlying295
  a65 := Tryz.isAgg295
  z65 := Tryz.sizeOf295
  v65 := Tryz.zeroValue295
  i65 := by kernel_rfl
  t66 := Tryz.underlying296
  a66 := Tryz.isAgg296
  z66 := Tryz.sizeOf296
  v66 := Tryz.zeroValue296
  i66 := by kernel_rfl
  t67 := Tryz.underlying236
  a67 := Tryz.isAgg236
  z67 := Tryz.sizeOf236
  v67 := Tryz.zeroValue236
  i67 := by kernel_rfl
  g0 := by kernel_rfl
  m0 := by kernel_rfl
  g1 := by kernel_rfl
  m1 := by kernel_rfl
  g2 := by kernel_rfl
  m2 := by kernel_rfl
  g3 := by kernel_rfl
  m3 := by kernel_rfl
  g4 := by kernel_rfl
  m4 := by kernel_rfl }
open Go.RowKit in
theorem Tryz.strconv_ParseUint_10_at64_ok (s : ByteArray) (hmax : s.size ≤ 9223372036854775806) (u : Nat) (h : Lib.parseUintB 64 s.data.toList = .ok u) (w : World) :
    Calls Tryz.prog 209 #[.string s, .int .i64 10, .int .i64 64] w fun e w' => e = .returned (.tuple #[.int .u64 u, .nilIface]) ∧ (w' = w ∨ w' = Lib.bytesWorld w 5 s) := Any.strconv_ParseUint_10_at64_ok Tryz.laysPu14 s hmax u h w
def Tryz.lays105_ren : Go.Shelf.Ren := ⟨fun | 105 => 214 | 212 => 248 | 99 => 249 | 165 => 250 | 166 => 212 | 170 => 251 | 169 => 215 | 263 => 273 | 264 => 274 | 206 => 231 | 240 => 246 | 241 => 275 | 276 => 272 | 277 => 285 | n => n, fun | 9 => 9 | 3 => 3 | 4 => 4 | 20 => 20 | 0 => 0 | 46 => 85 | 109 => 251 | 5 => 5 | 72 => 232 | 76 => 193 | 51 => 125 | 146 => 278 | 53 => 127 | 148 => 280 | 70 => 230 | 37 => 137 | 75 => 192 | 127 => 255 | 164 => 276 | 80 => 236 | n => n, fun | n => n⟩
theorem Tryz.lays105 : Go.Proofs.Lays.n105 Tryz.prog Tryz.lays105_ren := {
  mixed := by kernel_rfl
  f99 := Tryz.func249.trans (congrArg some (by kernel_rfl))
  f105 := Tryz.func214.trans (congrArg some (by kernel_rfl))
  f165 := Tryz.func250.trans (congrArg some (by kernel_rfl))
  f166 := Tryz.func212.trans (congrArg some (by kernel_rfl))
  f169 := Tryz.func215.trans (congrArg some (by kernel_rfl))
  f170 := Tryz.func251.trans (congrArg some (by kernel_rfl))
  f206 := Tryz.func231.trans (congrArg some (by kernel_rfl))
  f212 := Tryz.func248.trans (congrArg some (by kernel_rfl))
  f240 := Tryz.func246.trans (congrArg some (by kernel_rfl))
  f241 := Tryz.func275.trans (congrArg some (by kernel_rfl))
  f263 := Tryz.func273.trans (congrArg some (by kernel_rfl))
  f264 := Tryz.func274.trans (congrArg some (by kernel_rfl))
  f276 := Tryz.func272.trans (congrArg some (by kernel_rfl))
  f277 := Tryz.func285.trans (congrArg some (by kernel_rfl))
  t0 := Tryz.underlying0
  a0 := Tryz.isAgg0
  z0 := Tryz.sizeOf0
  v0 := Tryz.zeroValue0
  t3 := Tryz.underlying3
  a3 := Tryz.isAgg3
  z3 := Tryz.sizeOf3
  v3 := Tryz.zeroValue3
  t4 := Tryz.underlying4
  a4 := Tryz.isAgg4
  z4 := Tryz.sizeOf4
  v4 := Tryz.zeroValue4
  t5 := Tryz.underlying5
  a5 := Tryz.isAgg5
  z5 := Tryz.sizeOf5
  v5 := Tryz.zeroValue5
  t9 := Tryz.underlying9
  a9 := Tryz.isAgg9
  z9 := Tryz.sizeOf9
  v9 := Tryz.zeroValue9
  t20 := Tryz.underlying20
  a20 := Tryz.isAgg20
  z20 := Tryz.sizeOf20
  v20 := Tryz.zeroValue20
  t37 := Tryz.underlying137
  a37 := Tryz.isAgg137
  z37 := Tryz.sizeOf137
  v37 := Tryz.zeroValue137
  t46 := Tryz.underlying85
  a46 := Tryz.isAgg85
  z46 := Tryz.sizeOf85
  v46 := Tryz.zeroValue85
  t51 := Tryz.underlying125
  a51 := Tryz.isAgg125
  z51 := Tryz.sizeOf125
  v51 := Tryz.zeroValue125
  t53 := Tryz.underlying127
  a53 := Tryz.isAgg127
  z53 := Tryz.sizeOf127
  v53 := Tryz.zeroValue127
  t70 := Tryz.underlying230
  a70 := Tryz.isAgg230
  z70 := Tryz.sizeOf230
  v70 := Tryz.zeroValue230
  t72 := Tryz.underlying232
  a72 := Tryz.isAgg232
  z72 := Tryz.sizeOf232
  v72 := Tryz.zeroValue232
  t75 := Tryz.underlying192
  a75 := Tryz.isAgg192
  z75 := Tryz.sizeOf192
  v75 := Tryz.zeroValue192
  t76 := Tryz.underlying193
  a76 := Tryz.isAgg193
  z76 := Tryz.sizeOf193
  v76 := Tryz.zeroValue193
  t109 := Tryz.underlying251
  a109 := Tryz.isAgg251
  z109 := Tryz.sizeOf251
  v109 := Tryz.zeroValue251
  t127 := Tryz.underlying255
  a127 := Tryz.isAgg255
  z127 := Tryz.sizeOf255
  v127 := Tryz.zeroValue255
  t146 := Tryz.underlying278
  a146 := Tryz.isAgg278
  z146 := Tryz.sizeOf278
  v146 := Tryz.zeroValue278
  t148 := Tryz.underlying280
  a148 := Tryz.isAgg280
  z148 := Tryz.sizeOf280
  v148 := Tryz.zeroValue280
  t164 := Tryz.underlying276
  a164 := Tryz.isAgg276
  z164 := Tryz.sizeOf276
  v164 := Tryz.zeroValue276 }
theorem Tryz.Builder_Extra_105 : Builder.Extra Tryz.prog Tryz.lays105_ren := {
  sizeBuilder := by kernel_rfl
  liesBuilder := by kernel_rfl
  t5 := Tryz.underlying5
  a5 := Tryz.isAgg5
  z5 := Tryz.sizeOf5
  v5 := Tryz.zeroValue5
  infoByte := by kernel_rfl
  cellsByte := by kernel_rfl
  sizeByte := by kernel_rfl
  neB5 := by decide }
open Go.RowKit Go.Lib in
theorem Tryz.strings_Repeat (s : ByteArray) (c : Nat) (w : World) (hc : c ≤ 9223372036854775807) (hlen : s.size * c ≤ 140737488355328) :
    Calls Tryz.prog 214 #[.string s, .int .i64 c] w fun e w' => e = .returned (.string ⟨(Lib.repeatL s.data.toList c).toArray⟩) ∧ Below w.heap.size w w' := Any.strings_Repeat Tryz.lays105 Tryz.Builder_Extra_105 s c w hc hlen
end Go.Proofs
