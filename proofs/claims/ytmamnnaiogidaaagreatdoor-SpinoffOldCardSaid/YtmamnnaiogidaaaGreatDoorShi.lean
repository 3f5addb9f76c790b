/-
  DERIVED: THE SHELF's CONTRACTS AT THIS DUMP, IN PLAIN WORDS (tools/lay-plain.mjs out of 'TryzShelfSel.lean', which tools/lay-shelf.mjs wrote): THE SAME DECLARATIONS UNDER THE SAME NAMES: 'import', 'namespace', 'open', 'def', 'theorem' AND NOTHING ELSE: no command of the shelf's: FOR A HAND-IN. Each laying: the table of numbers ('.._ren') and one theorem, a field a fact of the dump's own or the kernel's comparison; each contract: ONE APPLICATION.
-/
import Derived.Shelf.Strings.Builder1
import Derived.Shelf.Strings.Builder2
import Derived.Shelf.Strings.Trim
import Derived.Shelf.Small.Utf8
import Derived.Shelf.Small.Bits
import Derived.Shelf.Small.Strs
import Derived.Shelf.Small.Wraps
import Derived.Shelf.Strings.BuilderF
import Derived.Shelf.Strings.BuilderK
import Derived.Shelf.Strings.Builder2Cap
import Derived.Shelf.Strconv.Atoi
import Derived.Shelf.Strconv.Itoa0
import Derived.Shelf.Strconv.Itoa1
import Derived.Shelf.LaysM
import Derived.Shelf.Strconv.Itoa2
import Derived.Shelf.Strconv.Itoa3
import Derived.Shelf.Strconv.AtoiErrFast
import Derived.Shelf.Strconv.ParseIntEmpty
import Derived.Shelf.Strconv.AtoiFail
import Derived.Shelf.Strconv.Clone
import Derived.Shelf.Strconv.SyntaxError
import Derived.Shelf.LaysC
import Derived.Shelf.Strconv.ToError
import Derived.Shelf.Strconv.Lower
import Derived.Shelf.Strconv.ParseUint10
import Derived.Shelf.Strconv.ParseUint10Empty
import Derived.Shelf.Strconv.ParseUint10Any
import Derived.Shelf.Strconv.ParseInt10
import Derived.Shelf.Strconv.AtoiLong
import Derived.Shelf.Strconv.AtoiInnerAll
import Derived.Shelf.Strconv.RangeError
import Derived.Shelf.Strconv.ToErrorRange
import Derived.Shelf.Strconv.AtoiAll
import Derived.Shelf.Strconv.ErrVarAll
import Derived.Shelf.Strconv.ParseUintEmpty
import Derived.Shelf.Strconv.ParseUint10b64
import Derived.Shelf.Strconv.ParseUint10b32
import Derived.Shelf.Strconv.ParseUint10b16
import Derived.Shelf.Strconv.ParseUint10b8
import Derived.Shelf.Strconv.ParseUint10At
import Derived.Shelf.Strconv.ParseInt10At64
import Derived.Shelf.Strconv.ParseInt10At32
import Derived.Shelf.Strconv.ParseInt10At16
import Derived.Shelf.Strconv.ParseInt10At8
import Derived.Shelf.Strconv.ParseInt10All
import Derived.Shelf.Strconv.ParseIntPublic10
import Derived.Ground.MpProg
import Derived.Shelf.Pu.ParseUintPublic10
import Derived.Shelf.Strings.Search1
import Derived.Shelf.Strings.Search2
import Derived.Shelf.Strings.Cut
import Derived.Shelf.Strings.Shaped
import Derived.Shelf.Strings.Prefix
import Derived.Shelf.Strings.Runes
import Derived.Shelf.Strings.AsciiSet
import Derived.Shelf.Bits.Mul64
import Derived.Shelf.Strings.Repeat
import Derived.Shelf.Unicode.DecodeSlow
import Derived.Shelf.Strings.BuilderCap
import Derived.Ground.SlsfProg
import Derived.Shelf.SlSortCmp.Insertion
import Derived.Shelf.SlSortCmp.SiftDown1
import Derived.Shelf.SlSortCmp.HeapSort1
import Derived.Shelf.SlSortCmp.Insertion1
import Derived.Shelf.SlSortCmp.Median1
import Derived.Shelf.SlSortCmp.Pivot1
import Derived.Shelf.SlSortCmp.ReverseRange1
import Derived.Shelf.SlSortCmp.PartialInsertion1
import Derived.Shelf.SlSortCmp.PartitionEqual1
import Derived.Shelf.SlSortCmp.Partition1
import Derived.Shelf.SlSortCmp.Pdq1
import Derived.Shelf.SlSortCmp.Whole1
import Derived.Lib.AppendIntMem
import Derived.Test.YtmamnnaiogidaaaGreatDoorProg
import Derived.Test.YtmamnnaiogidaaaGreatDoorShelf
namespace Go.Proofs
open Go.Shelf
def Tryz.lays169_ren : Go.Shelf.Ren := ⟨fun | 169 => 83 | n => n, fun | 70 => 139 | 9 => 9 | 0 => 0 | 72 => 142 | 37 => 140 | 127 => 186 | 3 => 3 | 5 => 5 | n => n, fun | n => n⟩
theorem Tryz.lays169 : Go.Proofs.Lays.n169 Tryz.prog Tryz.lays169_ren := {
  mixed := by kernel_rfl
  f169 := Tryz.func83.trans (congrArg some (by kernel_rfl))
  t0 := Tryz.underlying0
  a0 := Tryz.isAgg0
  z0 := Tryz.sizeOf0
  v0 := Tryz.zeroValue0
  t3 := Tryz.underlying3
  a3 := Tryz.isAgg3
  z3 := Tryz.sizeOf3
  v3 := Tryz.zeroValue3
  t9 := Tryz.underlying9
  a9 := Tryz.isAgg9
  z9 := Tryz.sizeOf9
  v9 := Tryz.zeroValue9
  t37 := Tryz.underlying140
  a37 := Tryz.isAgg140
  z37 := Tryz.sizeOf140
  v37 := Tryz.zeroValue140
  t70 := Tryz.underlying139
  a70 := Tryz.isAgg139
  z70 := Tryz.sizeOf139
  v70 := Tryz.zeroValue139
  t72 := Tryz.underlying142
  a72 := Tryz.isAgg142
  z72 := Tryz.sizeOf142
  v72 := Tryz.zeroValue142
  t127 := Tryz.underlying186
  a127 := Tryz.isAgg186
  z127 := Tryz.sizeOf186
  v127 := Tryz.zeroValue186 }
theorem Tryz.Builder_Extra_169 : Builder.Extra Tryz.prog Tryz.lays169_ren := {
  sizeBuilder := by kernel_rfl
  liesBuilder := by kernel_rfl
  t5 := Tryz.underlying5
  a5 := Tryz.isAgg5
  z5 := Tryz.sizeOf5
  v5 := Tryz.zeroValue5
  infoByte := by kernel_rfl
  cellsByte := by kernel_rfl
  sizeByte := by kernel_rfl
  neB5 := by decide }
open Go.RowKit in
theorem Tryz.Builder_String_any (B b : Nat) (l : List UInt8) (w : World) (h : Lib.IsBuilder 142 5 B b (Lib.byteCells l) w) (hBw : B ≤ w.heap.size) :
    Calls Tryz.prog 83 #[.pointer (some ⟨b, 0, none⟩)] w fun e w' => e = .returned (.string ⟨l.toArray⟩) ∧ Below B w w' := Any.Builder_String_any Tryz.lays169 Tryz.Builder_Extra_169 B b l w h hBw
def Tryz.lays283_ren : Go.Shelf.Ren := ⟨fun | 283 => 168 | n => n, fun | 3 => 3 | 9 => 9 | 4 => 4 | n => n, fun | n => n⟩
theorem Tryz.lays283 : Go.Proofs.Lays.n283 Tryz.prog Tryz.lays283_ren := {
  mixed := by kernel_rfl
  f283 := Tryz.func168.trans (congrArg some (by kernel_rfl))
  t3 := Tryz.underlying3
  a3 := Tryz.isAgg3
  z3 := Tryz.sizeOf3
  v3 := Tryz.zeroValue3
  t4 := Tryz.underlying4
  a4 := Tryz.isAgg4
  z4 := Tryz.sizeOf4
  v4 := Tryz.zeroValue4
  t9 := Tryz.underlying9
  a9 := Tryz.isAgg9
  z9 := Tryz.sizeOf9
  v9 := Tryz.zeroValue9 }
open Go.Lib in
theorem Tryz.internal_strconv_small (i : Nat) (h : i < 100) (w : World) :
    Calls Tryz.prog 168 #[.int .i64 i] w fun e w' => e = .returned (.string ⟨(Lib.decDigits i).toArray⟩) ∧ w' = w := Any.internal_strconv_small Tryz.lays283 i h w
def Tryz.laysM284_ren : Go.Shelf.Ren := ⟨fun | 284 => 169 | 129 => 208 | 317 => 207 | 318 => 209 | n => n, fun | 53 => 133 | 3 => 3 | 212 => 266 | 0 => 0 | 4 => 4 | 46 => 180 | 5 => 5 | 9 => 9 | n => n, fun | 17 => 2 | n => n⟩
theorem Tryz.laysM284 : Go.Proofs.LaysM.n284 Tryz.prog Tryz.laysM284_ren := {
  mixed := by kernel_rfl
  f129 := Tryz.func208.trans (congrArg some (by kernel_rfl))
  f284 := Tryz.func169.trans (congrArg some (by kernel_rfl))
  f317 := Tryz.func207.trans (congrArg some (by kernel_rfl))
  f318 := Tryz.func209.trans (congrArg some (by kernel_rfl))
  t0 := Tryz.underlying0
  a0 := Tryz.isAgg0
  z0 := Tryz.sizeOf0
  v0 := Tryz.zeroValue0
  t3 := Tryz.underlying3
  a3 := Tryz.isAgg3
  z3 := Tryz.sizeOf3
  v3 := Tryz.zeroValue3
  t4 := Tryz.underlying4
  a4 := Tryz.isAgg4
  z4 := Tryz.sizeOf4
  v4 := Tryz.zeroValue4
  t5 := Tryz.underlying5
  a5 := Tryz.isAgg5
  z5 := Tryz.sizeOf5
  v5 := Tryz.zeroValue5
  t9 := Tryz.underlying9
  a9 := Tryz.isAgg9
  z9 := Tryz.sizeOf9
  v9 := Tryz.zeroValue9
  t46 := Tryz.underlying180
  a46 := Tryz.isAgg180
  z46 := Tryz.sizeOf180
  v46 := Tryz.zeroValue180
  t53 := Tryz.underlying133
  a53 := Tryz.isAgg133
  z53 := Tryz.sizeOf133
  v53 := Tryz.zeroValue133
  t212 := Tryz.underlying266
  a212 := Tryz.isAgg266
  z212 := Tryz.sizeOf266
  v212 := Tryz.zeroValue266
  g17 := by kernel_rfl
  i0 := by kernel_rfl
  i3 := by kernel_rfl
  i4 := by kernel_rfl
  i5 := by kernel_rfl
  i9 := by kernel_rfl
  i46 := by kernel_rfl
  i53 := by kernel_rfl
  i212 := by kernel_rfl
  m17 := by kernel_rfl }
open Go.Lib in
theorem Tryz.internal_strconv_numDigits (u : Nat) (h1 : 1 ≤ u) (h2 : u < 18446744073709551616) (w : World) (htab : Lib.TabIs Tryz.prog w "internal/strconv.uint64pow10" .u64 Lib.pow10Tab) :
    Calls Tryz.prog 169 #[.int .u64 u] w fun e w' => e = .returned (.int .i64 (Lib.nDigits u)) ∧ w' = w := Any.internal_strconv_numDigits Tryz.laysM284 u h1 h2 w htab
def Tryz.lays285_ren : Go.Shelf.Ren := ⟨fun | 285 => 170 | n => n, fun | 37 => 140 | 53 => 133 | 3 => 3 | 4 => 4 | 51 => 228 | 9 => 9 | 5 => 5 | 0 => 0 | n => n, fun | n => n⟩
theorem Tryz.lays285 : Go.Proofs.Lays.n285 Tryz.prog Tryz.lays285_ren := {
  mixed := by kernel_rfl
  f285 := Tryz.func170.trans (congrArg some (by kernel_rfl))
  t0 := Tryz.underlying0
  a0 := Tryz.isAgg0
  z0 := Tryz.sizeOf0
  v0 := Tryz.zeroValue0
  t3 := Tryz.underlying3
  a3 := Tryz.isAgg3
  z3 := Tryz.sizeOf3
  v3 := Tryz.zeroValue3
  t4 := Tryz.underlying4
  a4 := Tryz.isAgg4
  z4 := Tryz.sizeOf4
  v4 := Tryz.zeroValue4
  t5 := Tryz.underlying5
  a5 := Tryz.isAgg5
  z5 := Tryz.sizeOf5
  v5 := Tryz.zeroValue5
  t9 := Tryz.underlying9
  a9 := Tryz.isAgg9
  z9 := Tryz.sizeOf9
  v9 := Tryz.zeroValue9
  t37 := Tryz.underlying140
  a37 := Tryz.isAgg140
  z37 := Tryz.sizeOf140
  v37 := Tryz.zeroValue140
  t51 := Tryz.underlying228
  a51 := Tryz.isAgg228
  z51 := Tryz.sizeOf228
  v51 := Tryz.zeroValue228
  t53 := Tryz.underlying133
  a53 := Tryz.isAgg133
  z53 := Tryz.sizeOf133
  v53 := Tryz.zeroValue133 }
open Go.RowKit Go.Sort Go.Lib in
theorem Tryz.internal_strconv_formatBase10 (blk off cap : Nat) (u : Nat) (d : Array UInt8) (w : World) (hH : Holds (fun (b : UInt8) => Value.int .u8 (b.toNat : Int)) w blk off d) (hu : u < 10 ^ d.size) (hu64 : u < 18446744073709551616) (hsz : d.size < 4611686018427387904) :
    Calls Tryz.prog 170 #[.slice (some ⟨blk, off, none⟩) d.size cap, .int .u64 u] w fun e w' =>
      e = .returned (.tuple #[]) ∧ ∃ (n v' : Nat) (dk : Array UInt8), w' = (putRow (fun (b : UInt8) => Value.int .u8 (b.toNat : Int)) w blk off dk).drewN n ∧ FmtInv d.size u 0 v' dk := Any.internal_strconv_formatBase10 Tryz.lays285 blk off cap u d w hH hu hu64 hsz
def Tryz.laysPu14_ren : Go.Shelf.Ren := ⟨fun | 14 => 77 | 16 => 116 | 17 => 117 | 19 => 161 | 20 => 162 | 21 => 163 | 22 => 164 | 23 => 165 | 24 => 166 | 25 => 205 | 27 => 45 | 26 => 206 | 28 => 91 | 29 => 136 | 30 => 168 | 31 => 169 | 32 => 170 | 33 => 171 | 35 => 208 | 34 => 207 | 36 => 209 | 37 => 210 | 38 => 211 | 39 => 230 | 40 => 231 | n => n, fun | 9 => 9 | 3 => 3 | 22 => 133 | 24 => 135 | 25 => 136 | 4 => 4 | 34 => 216 | 5 => 5 | 36 => 180 | 37 => 140 | 0 => 0 | 39 => 218 | 21 => 21 | 44 => 262 | 47 => 186 | 50 => 283 | 48 => 281 | 2 => 2 | 52 => 223 | 55 => 226 | 59 => 266 | 60 => 228 | 20 => 20 | 61 => 267 | 65 => 300 | 66 => 301 | 67 => 148 | n => n, fun | 0 => 0 | 1 => 1 | 2 => 2 | 3 => 6 | 4 => 7 | n => n⟩
theorem Tryz.laysPu14 : Go.Proofs.LaysPu.n14 Tryz.prog Tryz.laysPu14_ren := {
  mixed := by kernel_rfl
  f14 := Tryz.func77.trans (congrArg some (by kernel_rfl))
  f16 := Tryz.func116.trans (congrArg some (by kernel_rfl))
  f17 := Tryz.func117.trans (congrArg some (by kernel_rfl))
  f19 := Tryz.func161.trans (congrArg some (by kernel_rfl))
  f20 := Tryz.func162.trans (congrArg some (by kernel_rfl))
  f21 := Tryz.func163.trans (congrArg some (by kernel_rfl))
  f22 := Tryz.func164.trans (congrArg some (by kernel_rfl))
  f23 := Tryz.func165.trans (congrArg some (by kernel_rfl))
  f24 := Tryz.func166.trans (congrArg some (by kernel_rfl))
  f25 := Tryz.func205.trans (congrArg some (by kernel_rfl))
  f26 := Tryz.func206.trans (congrArg some (by kernel_rfl))
  f27 := Tryz.func45.trans (congrArg some (by kernel_rfl))
  f28 := Tryz.func91.trans (congrArg some (by kernel_rfl))
  f29 := Tryz.func136.trans (congrArg some (by kernel_rfl))
  f30 := Tryz.func168.trans (congrArg some (by kernel_rfl))
  f31 := Tryz.func169.trans (congrArg some (by kernel_rfl))
  f32 := Tryz.func170.trans (congrArg some (by kernel_rfl))
  f33 := Tryz.func171.trans (congrArg some (by kernel_rfl))
  f34 := Tryz.func207.trans (congrArg some (by kernel_rfl))
  f35 := Tryz.func208.trans (congrArg some (by kernel_rfl))
  f36 := Tryz.func209.trans (congrArg some (by kernel_rfl))
  f37 := Tryz.func210.trans (congrArg some (by kernel_rfl))
  f38 := Tryz.func211.trans (congrArg some (by kernel_rfl))
  f39 := Tryz.func230.trans (congrArg some (by kernel_rfl))
  f40 := Tryz.func231.trans (congrArg some (by kernel_rfl))
  t0 := Tryz.underlying0
  a0 := Tryz.isAgg0
  z0 := Tryz.sizeOf0
  v0 := Tryz.zeroValue0
  i0 := by kernel_rfl
  t2 := Tryz.underlying2
  a2 := Tryz.isAgg2
  z2 := Tryz.sizeOf2
  v2 := Tryz.zeroValue2
  i2 := by kernel_rfl
  t3 := Tryz.underlying3
  a3 := Tryz.isAgg3
  z3 := Tryz.sizeOf3
  v3 := Tryz.zeroValue3
  i3 := by kernel_rfl
  t4 := Tryz.underlying4
  a4 := Tryz.isAgg4
  z4 := Tryz.sizeOf4
  v4 := Tryz.zeroValue4
  i4 := by kernel_rfl
  t5 := Tryz.underlying5
  a5 := Tryz.isAgg5
  z5 := Tryz.sizeOf5
  v5 := Tryz.zeroValue5
  i5 := by kernel_rfl
  t9 := Tryz.underlying9
  a9 := Tryz.isAgg9
  z9 := Tryz.sizeOf9
  v9 := Tryz.zeroValue9
  i9 := by kernel_rfl
  t20 := Tryz.underlying20
  a20 := Tryz.isAgg20
  z20 := Tryz.sizeOf20
  v20 := Tryz.zeroValue20
  i20 := by kernel_rfl
  t21 := Tryz.underlying21
  a21 := Tryz.isAgg21
  z21 := Tryz.sizeOf21
  v21 := Tryz.zeroValue21
  i21 := by kernel_rfl
  t22 := Tryz.underlying133
  a22 := Tryz.isAgg133
  z22 := Tryz.sizeOf133
  v22 := Tryz.zeroValue133
  i22 := by kernel_rfl
  t24 := Tryz.underlying135
  a24 := Tryz.isAgg135
  z24 := Tryz.sizeOf135
  v24 := Tryz.zeroValue135
  i24 := by kernel_rfl
  t25 := Tryz.underlying136
  a25 := Tryz.isAgg136
  z25 := Tryz.sizeOf136
  v25 := Tryz.zeroValue136
  i25 := by kernel_rfl
  t34 := Tryz.underlying216
  a34 := Tryz.isAgg216
  z34 := Tryz.sizeOf216
  v34 := Tryz.zeroValue216
  i34 := by kernel_rfl
  c34 := by kernel_rfl
  t36 := Tryz.underlying180
  a36 := Tryz.isAgg180
  z36 := Tryz.sizeOf180
  v36 := Tryz.zeroValue180
  i36 := by kernel_rfl
  t37 := Tryz.underlying140
  a37 := Tryz.isAgg140
  z37 := Tryz.sizeOf140
  v37 := Tryz.zeroValue140
  i37 := by kernel_rfl
  t39 := Tryz.underlying218
  a39 := Tryz.isAgg218
  z39 := Tryz.sizeOf218
  v39 := Tryz.zeroValue218
  i39 := by kernel_rfl
  t44 := Tryz.underlying262
  a44 := Tryz.isAgg262
  z44 := Tryz.sizeOf262
  v44 := Tryz.zeroValue262
  i44 := by kernel_rfl
  t47 := Tryz.underlying186
  a47 := Tryz.isAgg186
  z47 := Tryz.sizeOf186
  v47 := Tryz.zeroValue186
  i47 := by kernel_rfl
  t48 := Tryz.underlying281
  a48 := Tryz.isAgg281
  z48 := Tryz.sizeOf281
  v48 := Tryz.zeroValue281
  i48 := by kernel_rfl
  t50 := Tryz.underlying283
  a50 := Tryz.isAgg283
  z50 := Tryz.sizeOf283
  v50 := Tryz.zeroValue283
  i50 := by kernel_rfl
  t52 := Tryz.underlying223
  a52 := Tryz.isAgg223
  z52 := Tryz.sizeOf223
  v52 := Tryz.zeroValue223
  i52 := by kernel_rfl
  t55 := Tryz.underlying226
  a55 := Tryz.isAgg226
  z55 := Tryz.sizeOf226
  v55 := Tryz.zeroValue226
  i55 := by kernel_rfl
  t59 := Tryz.underlying266
  a59 := Tryz.isAgg266
  z59 := Tryz.sizeOf266
  v59 := Tryz.zeroValue266
  i59 := by kernel_rfl
  t60 := Tryz.underlying228
  a60 := Tryz.isAgg228
  z60 := Tryz.sizeOf228
  v60 := Tryz.zeroValue228
  i60 := by kernel_rfl
  t61 := Tryz.underlying267
  a61 := Tryz.isAgg267
  z61 := Tryz.sizeOf267
  t65 := Tryz.underlying300
  a65 := Tryz.isAgg300
  z65 := Tryz.sizeOf300
  v65 := Tryz.zeroValue300
  i65 := by kernel_rfl
  t66 := Tryz.underlying301
  a66 := Tryz.isAgg301
  z66 := Tryz.sizeOf301
  v66 := Tryz.zeroValue301
  i66 := by kernel_rfl
  t67 := Tryz.underlying148
  a67 := Tryz.isAgg148
  z67 := Tryz.sizeOf148
  v67 := Tryz.zeroValue148
  i67 := by kernel_rfl
  g0 := by kernel_rfl
  m0 := by kernel_rfl
  g1 := by kernel_rfl
  m1 := by kernel_rfl
  g2 := by kernel_rfl
  m2 := by kernel_rfl
  g3 := by kernel_rfl
  m3 := by kernel_rfl
  g4 := by kernel_rfl
  m4 := by kernel_rfl }
open Go.RowKit in
theorem Tryz.strconv_ParseUint_10_at64_ok (s : ByteArray) (hmax : s.size ≤ 9223372036854775806) (u : Nat) (h : Lib.parseUintB 64 s.data.toList = .ok u) (w : World) :
    Calls Tryz.prog 77 #[.string s, .int .i64 10, .int .i64 64] w fun e w' => e = .returned (.tuple #[.int .u64 u, .nilIface]) ∧ (w' = w ∨ w' = Lib.bytesWorld w 5 s) := Any.strconv_ParseUint_10_at64_ok Tryz.laysPu14 s hmax u h w
def Tryz.lays105_ren : Go.Shelf.Ren := ⟨fun | 105 => 82 | 212 => 120 | 99 => 121 | 165 => 122 | 166 => 80 | 170 => 123 | 169 => 83 | 263 => 172 | 264 => 173 | 206 => 174 | 240 => 118 | 241 => 175 | 276 => 167 | 277 => 212 | n => n, fun | 9 => 9 | 3 => 3 | 4 => 4 | 20 => 20 | 0 => 0 | 46 => 180 | 109 => 181 | 5 => 5 | 72 => 142 | 76 => 144 | 51 => 228 | 146 => 229 | 53 => 133 | 148 => 231 | 70 => 139 | 37 => 140 | 75 => 135 | 127 => 186 | 164 => 221 | 80 => 148 | n => n, fun | n => n⟩
theorem Tryz.lays105 : Go.Proofs.Lays.n105 Tryz.prog Tryz.lays105_ren := {
  mixed := by kernel_rfl
  f99 := Tryz.func121.trans (congrArg some (by kernel_rfl))
  f105 := Tryz.func82.trans (congrArg some (by kernel_rfl))
  f165 := Tryz.func122.trans (congrArg some (by kernel_rfl))
  f166 := Tryz.func80.trans (congrArg some (by kernel_rfl))
  f169 := Tryz.func83.trans (congrArg some (by kernel_rfl))
  f170 := Tryz.func123.trans (congrArg some (by kernel_rfl))
  f206 := Tryz.func174.trans (congrArg some (by kernel_rfl))
  f212 := Tryz.func120.trans (congrArg some (by kernel_rfl))
  f240 := Tryz.func118.trans (congrArg some (by kernel_rfl))
  f241 := Tryz.func175.trans (congrArg some (by kernel_rfl))
  f263 := Tryz.func172.trans (congrArg some (by kernel_rfl))
  f264 := Tryz.func173.trans (congrArg some (by kernel_rfl))
  f276 := Tryz.func167.trans (congrArg some (by kernel_rfl))
  f277 := Tryz.func212.trans (congrArg some (by kernel_rfl))
  t0 := Tryz.underlying0
  a0 := Tryz.isAgg0
  z0 := Tryz.sizeOf0
  v0 := Tryz.zeroValue0
  t3 := Tryz.underlying3
  a3 := Tryz.isAgg3
  z3 := Tryz.sizeOf3
  v3 := Tryz.zeroValue3
  t4 := Tryz.underlying4
  a4 := Tryz.isAgg4
  z4 := Tryz.sizeOf4
  v4 := Tryz.zeroValue4
  t5 := Tryz.underlying5
  a5 := Tryz.isAgg5
  z5 := Tryz.sizeOf5
  v5 := Tryz.zeroValue5
  t9 := Tryz.underlying9
  a9 := Tryz.isAgg9
  z9 := Tryz.sizeOf9
  v9 := Tryz.zeroValue9
  t20 := Tryz.underlying20
  a20 := Tryz.isAgg20
  z20 := Tryz.sizeOf20
  v20 := Tryz.zeroValue20
  t37 := Tryz.underlying140
  a37 := Tryz.isAgg140
  z37 := Tryz.sizeOf140
  v37 := Tryz.zeroValue140
  t46 := Tryz.underlying180
  a46 := Tryz.isAgg180
  z46 := Tryz.sizeOf180
  v46 := Tryz.zeroValue180
  t51 := Tryz.underlying228
  a51 := Tryz.isAgg228
  z51 := Tryz.sizeOf228
  v51 := Tryz.zeroValue228
  t53 := Tryz.underlying133
  a53 := Tryz.isAgg133
  z53 := Tryz.sizeOf133
  v53 := Tryz.zeroValue133
  t70 := Tryz.underlying139
  a70 := Tryz.isAgg139
  z70 := Tryz.sizeOf139
  v70 := Tryz.zeroValue139
  t72 := Tryz.underlying142
  a72 := Tryz.isAgg142
  z72 := Tryz.sizeOf142
  v72 := Tryz.zeroValue142
  t75 := Tryz.underlying135
  a75 := Tryz.isAgg135
  z75 := Tryz.sizeOf135
  v75 := Tryz.zeroValue135
  t76 := Tryz.underlying144
  a76 := Tryz.isAgg144
  z76 := Tryz.sizeOf144
  v76 := Tryz.zeroValue144
  t109 := Tryz.underlying181
  a109 := Tryz.isAgg181
  z109 := Tryz.sizeOf181
  v109 := Tryz.zeroValue181
  t127 := Tryz.underlying186
  a127 := Tryz.isAgg186
  z127 := Tryz.sizeOf186
  v127 := Tryz.zeroValue186
  t146 := Tryz.underlying229
  a146 := Tryz.isAgg229
  z146 := Tryz.sizeOf229
  v146 := Tryz.zeroValue229
  t148 := Tryz.underlying231
  a148 := Tryz.isAgg231
  z148 := Tryz.sizeOf231
  v148 := Tryz.zeroValue231
  t164 := Tryz.underlying221
  a164 := Tryz.isAgg221
  z164 := Tryz.sizeOf221
  v164 := Tryz.zeroValue221 }
theorem Tryz.Builder_Extra_105 : Builder.Extra Tryz.prog Tryz.lays105_ren := {
  sizeBuilder := by kernel_rfl
  liesBuilder := by kernel_rfl
  t5 := Tryz.underlying5
  a5 := Tryz.isAgg5
  z5 := Tryz.sizeOf5
  v5 := Tryz.zeroValue5
  infoByte := by kernel_rfl
  cellsByte := by kernel_rfl
  sizeByte := by kernel_rfl
  neB5 := by decide }
open Go.RowKit Go.Lib in
theorem Tryz.strings_Repeat (s : ByteArray) (c : Nat) (w : World) (hc : c ≤ 9223372036854775807) (hlen : s.size * c ≤ 140737488355328) :
    Calls Tryz.prog 82 #[.string s, .int .i64 c] w fun e w' => e = .returned (.string ⟨(Lib.repeatL s.data.toList c).toArray⟩) ∧ Below w.heap.size w w' := Any.strings_Repeat Tryz.lays105 Tryz.Builder_Extra_105 s c w hc hlen
end Go.Proofs
