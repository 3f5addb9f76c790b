/-
  DERIVED: THE SHELF's CONTRACTS AT THIS DUMP, IN PLAIN WORDS (tools/lay-plain.mjs out of 'TryzShelfSel.lean', which tools/lay-shelf.mjs wrote): THE SAME DECLARATIONS UNDER THE SAME NAMES: 'import', 'namespace', 'open', 'def', 'theorem' AND NOTHING ELSE: no command of the shelf's: FOR A HAND-IN. Each laying: the table of numbers ('.._ren') and one theorem, a field a fact of the dump's own or the kernel's comparison; each contract: ONE APPLICATION.
-/
import Derived.Shelf.Strings.Builder1
import Derived.Shelf.Strings.Builder2
import Derived.Shelf.Strings.Trim
import Derived.Shelf.Small.Utf8
import Derived.Shelf.Small.Bits
import Derived.Shelf.Small.Strs
import Derived.Shelf.Small.Wraps
import Derived.Shelf.Strings.BuilderF
import Derived.Shelf.Strings.BuilderK
import Derived.Shelf.Strings.Builder2Cap
import Derived.Shelf.Strconv.Atoi
import Derived.Shelf.Strconv.Itoa0
import Derived.Shelf.Strconv.Itoa1
import Derived.Shelf.LaysM
import Derived.Shelf.Strconv.Itoa2
import Derived.Shelf.Strconv.Itoa3
import Derived.Shelf.Strconv.AtoiErrFast
import Derived.Shelf.Strconv.ParseIntEmpty
import Derived.Shelf.Strconv.AtoiFail
import Derived.Shelf.Strconv.Clone
import Derived.Shelf.Strconv.SyntaxError
import Derived.Shelf.LaysC
import Derived.Shelf.Strconv.ToError
import Derived.Shelf.Strconv.Lower
import Derived.Shelf.Strconv.ParseUint10
import Derived.Shelf.Strconv.ParseUint10Empty
import Derived.Shelf.Strconv.ParseUint10Any
import Derived.Shelf.Strconv.ParseInt10
import Derived.Shelf.Strconv.AtoiLong
import Derived.Shelf.Strconv.AtoiInnerAll
import Derived.Shelf.Strconv.RangeError
import Derived.Shelf.Strconv.ToErrorRange
import Derived.Shelf.Strconv.AtoiAll
import Derived.Shelf.Strconv.ErrVarAll
import Derived.Shelf.Strconv.ParseUintEmpty
import Derived.Shelf.Strconv.ParseUint10b64
import Derived.Shelf.Strconv.ParseUint10b32
import Derived.Shelf.Strconv.ParseUint10b16
import Derived.Shelf.Strconv.ParseUint10b8
import Derived.Shelf.Strconv.ParseUint10At
import Derived.Shelf.Strconv.ParseInt10At64
import Derived.Shelf.Strconv.ParseInt10At32
import Derived.Shelf.Strconv.ParseInt10At16
import Derived.Shelf.Strconv.ParseInt10At8
import Derived.Shelf.Strconv.ParseInt10All
import Derived.Ground.MpProg
import Derived.Shelf.Pu.ParseUintPublic10
import Derived.Shelf.Strings.Search1
import Derived.Shelf.Strings.Search2
import Derived.Shelf.Strings.Cut
import Derived.Shelf.Strings.Shaped
import Derived.Shelf.Strings.Prefix
import Derived.Shelf.Unicode.Decode
import Derived.Shelf.Strings.Runes
import Derived.Shelf.Strings.AsciiSet
import Derived.Shelf.Bits.Mul64
import Derived.Shelf.Strings.Repeat
import Derived.Shelf.Unicode.DecodeSlow
import Derived.Shelf.Unicode.DecodeAny
import Derived.Shelf.Unicode.DecodeLast
import Derived.Shelf.Strings.BuilderCap
import Derived.Ground.Names2Prog
import Derived.Shelf.Slices.Clone
import Derived.Shelf.Slices.CompactS
import Derived.Shelf.Slices.SearchI
import Derived.Shelf.Slices.Cells
import Derived.Ground.SlgnProg
import Derived.Shelf.SlicesG.Equal
import Derived.Shelf.SlicesE.Clone
import Derived.Ground.SlsfProg
import Derived.Shelf.SlSortCmp.Insertion
import Derived.Ground.SlgmProg
import Derived.Shelf.SortM.Plain
import Derived.Shelf.SortM.SortNone
import Derived.Shelf.SlSortCmp.SiftDown1
import Derived.Shelf.SlSortCmp.HeapSort1
import Derived.Shelf.SlSortCmp.Insertion1
import Derived.Shelf.SlSortCmp.Median1
import Derived.Shelf.SlSortCmp.Pivot1
import Derived.Shelf.SlSortCmp.ReverseRange1
import Derived.Shelf.SlSortCmp.PartialInsertion1
import Derived.Shelf.SlSortCmp.PartitionEqual1
import Derived.Shelf.SlSortCmp.Partition1
import Derived.Shelf.SlSortCmp.Pdq1
import Derived.Shelf.SlSortCmp.Whole1
import Derived.Shelf.SlSortCmp.NoneTotal
import Derived.Shelf.Strings.SlTrimAscii
import Derived.Test.YtokjnjdbnabchaaGreatDoorProg
namespace Go.Proofs
open Go.Shelf
def Tryz.lays161_ren : Go.Shelf.Ren := ⟨fun | 161 => 161 | 231 => 224 | 227 => 226 | 233 => 227 | 235 => 229 | 228 => 276 | 197 => 277 | 151 => 278 | 260 => 303 | 152 => 304 | 137 => 312 | 119 => 313 | 224 => 314 | 225 => 315 | 217 => 318 | 266 => 320 | n => n, fun | 9 => 9 | 4 => 4 | 3 => 3 | 5 => 5 | 117 => 247 | 116 => 246 | 0 => 0 | 124 => 250 | 105 => 292 | 21 => 21 | 119 => 316 | 46 => 156 | 139 => 319 | 138 => 318 | n => n, fun | 3 => 4 | 4 => 5 | n => n⟩
theorem Tryz.lays161 : Go.Proofs.Lays.n161 Tryz.prog Tryz.lays161_ren := {
  mixed := by kernel_rfl
  f119 := Tryz.func313.trans (congrArg some (by kernel_rfl))
  f137 := Tryz.func312.trans (congrArg some (by kernel_rfl))
  f151 := Tryz.func278.trans (congrArg some (by kernel_rfl))
  f152 := Tryz.func304.trans (congrArg some (by kernel_rfl))
  f161 := Tryz.func161.trans (congrArg some (by kernel_rfl))
  f197 := Tryz.func277.trans (congrArg some (by kernel_rfl))
  f217 := Tryz.func318.trans (congrArg some (by kernel_rfl))
  f224 := Tryz.func314.trans (congrArg some (by kernel_rfl))
  f225 := Tryz.func315.trans (congrArg some (by kernel_rfl))
  f227 := Tryz.func226.trans (congrArg some (by kernel_rfl))
  f228 := Tryz.func276.trans (congrArg some (by kernel_rfl))
  f231 := Tryz.func224.trans (congrArg some (by kernel_rfl))
  f233 := Tryz.func227.trans (congrArg some (by kernel_rfl))
  f235 := Tryz.func229.trans (congrArg some (by kernel_rfl))
  f260 := Tryz.func303.trans (congrArg some (by kernel_rfl))
  f266 := Tryz.func320.trans (congrArg some (by kernel_rfl))
  t0 := Tryz.underlying0
  a0 := Tryz.isAgg0
  z0 := Tryz.sizeOf0
  v0 := Tryz.zeroValue0
  t3 := Tryz.underlying3
  a3 := Tryz.isAgg3
  z3 := Tryz.sizeOf3
  v3 := Tryz.zeroValue3
  t4 := Tryz.underlying4
  a4 := Tryz.isAgg4
  z4 := Tryz.sizeOf4
  v4 := Tryz.zeroValue4
  t5 := Tryz.underlying5
  a5 := Tryz.isAgg5
  z5 := Tryz.sizeOf5
  v5 := Tryz.zeroValue5
  t9 := Tryz.underlying9
  a9 := Tryz.isAgg9
  z9 := Tryz.sizeOf9
  v9 := Tryz.zeroValue9
  t21 := Tryz.underlying21
  a21 := Tryz.isAgg21
  z21 := Tryz.sizeOf21
  v21 := Tryz.zeroValue21
  t46 := Tryz.underlying156
  a46 := Tryz.isAgg156
  z46 := Tryz.sizeOf156
  v46 := Tryz.zeroValue156
  t105 := Tryz.underlying292
  a105 := Tryz.isAgg292
  z105 := Tryz.sizeOf292
  v105 := Tryz.zeroValue292
  t116 := Tryz.underlying246
  a116 := Tryz.isAgg246
  z116 := Tryz.sizeOf246
  t117 := Tryz.underlying247
  a117 := Tryz.isAgg247
  z117 := Tryz.sizeOf247
  v117 := Tryz.zeroValue247
  t119 := Tryz.underlying316
  a119 := Tryz.isAgg316
  z119 := Tryz.sizeOf316
  t124 := Tryz.underlying250
  a124 := Tryz.isAgg250
  z124 := Tryz.sizeOf250
  v124 := Tryz.zeroValue250
  t138 := Tryz.underlying318
  a138 := Tryz.isAgg318
  z138 := Tryz.sizeOf318
  v138 := Tryz.zeroValue318
  t139 := Tryz.underlying319
  a139 := Tryz.isAgg319
  z139 := Tryz.sizeOf319
  v139 := Tryz.zeroValue319
  g3 := by kernel_rfl
  g4 := by kernel_rfl }
open Go.RowKit in
theorem Tryz.strings_TrimLeft_one (s : ByteArray) (c : UInt8) (hc : c.toNat < 128) (w : World) :
    Calls Tryz.prog 161 #[.string s, .string ⟨#[c]⟩] w fun e w' => e = .returned (.string ⟨(Lib.trimLeftB s.data.toList c).toArray⟩) ∧ w' = w := Any.strings_TrimLeft_one Tryz.lays161 s c hc w
def Tryz.lays160_ren : Go.Shelf.Ren := ⟨fun | 160 => 160 | 232 => 225 | 231 => 224 | 227 => 226 | 234 => 228 | 233 => 227 | 236 => 230 | 235 => 229 | 228 => 276 | 271 => 279 | 151 => 278 | 197 => 277 | 120 => 305 | 152 => 304 | 260 => 303 | 137 => 312 | 119 => 313 | 224 => 314 | 225 => 315 | 217 => 318 | 266 => 320 | n => n, fun | 9 => 9 | 4 => 4 | 3 => 3 | 5 => 5 | 117 => 247 | 116 => 246 | 0 => 0 | 124 => 250 | 21 => 21 | 105 => 292 | 46 => 156 | 119 => 316 | 139 => 319 | 138 => 318 | n => n, fun | 3 => 4 | 4 => 5 | n => n⟩
theorem Tryz.lays160 : Go.Proofs.Lays.n160 Tryz.prog Tryz.lays160_ren := {
  mixed := by kernel_rfl
  f119 := Tryz.func313.trans (congrArg some (by kernel_rfl))
  f120 := Tryz.func305.trans (congrArg some (by kernel_rfl))
  f137 := Tryz.func312.trans (congrArg some (by kernel_rfl))
  f151 := Tryz.func278.trans (congrArg some (by kernel_rfl))
  f152 := Tryz.func304.trans (congrArg some (by kernel_rfl))
  f160 := Tryz.func160.trans (congrArg some (by kernel_rfl))
  f197 := Tryz.func277.trans (congrArg some (by kernel_rfl))
  f217 := Tryz.func318.trans (congrArg some (by kernel_rfl))
  f224 := Tryz.func314.trans (congrArg some (by kernel_rfl))
  f225 := Tryz.func315.trans (congrArg some (by kernel_rfl))
  f227 := Tryz.func226.trans (congrArg some (by kernel_rfl))
  f228 := Tryz.func276.trans (congrArg some (by kernel_rfl))
  f231 := Tryz.func224.trans (congrArg some (by kernel_rfl))
  f232 := Tryz.func225.trans (congrArg some (by kernel_rfl))
  f233 := Tryz.func227.trans (congrArg some (by kernel_rfl))
  f234 := Tryz.func228.trans (congrArg some (by kernel_rfl))
  f235 := Tryz.func229.trans (congrArg some (by kernel_rfl))
  f236 := Tryz.func230.trans (congrArg some (by kernel_rfl))
  f260 := Tryz.func303.trans (congrArg some (by kernel_rfl))
  f266 := Tryz.func320.trans (congrArg some (by kernel_rfl))
  f271 := Tryz.func279.trans (congrArg some (by kernel_rfl))
  t0 := Tryz.underlying0
  a0 := Tryz.isAgg0
  z0 := Tryz.sizeOf0
  v0 := Tryz.zeroValue0
  t3 := Tryz.underlying3
  a3 := Tryz.isAgg3
  z3 := Tryz.sizeOf3
  v3 := Tryz.zeroValue3
  t4 := Tryz.underlying4
  a4 := Tryz.isAgg4
  z4 := Tryz.sizeOf4
  v4 := Tryz.zeroValue4
  t5 := Tryz.underlying5
  a5 := Tryz.isAgg5
  z5 := Tryz.sizeOf5
  v5 := Tryz.zeroValue5
  t9 := Tryz.underlying9
  a9 := Tryz.isAgg9
  z9 := Tryz.sizeOf9
  v9 := Tryz.zeroValue9
  t21 := Tryz.underlying21
  a21 := Tryz.isAgg21
  z21 := Tryz.sizeOf21
  v21 := Tryz.zeroValue21
  t46 := Tryz.underlying156
  a46 := Tryz.isAgg156
  z46 := Tryz.sizeOf156
  v46 := Tryz.zeroValue156
  t105 := Tryz.underlying292
  a105 := Tryz.isAgg292
  z105 := Tryz.sizeOf292
  v105 := Tryz.zeroValue292
  t116 := Tryz.underlying246
  a116 := Tryz.isAgg246
  z116 := Tryz.sizeOf246
  t117 := Tryz.underlying247
  a117 := Tryz.isAgg247
  z117 := Tryz.sizeOf247
  v117 := Tryz.zeroValue247
  t119 := Tryz.underlying316
  a119 := Tryz.isAgg316
  z119 := Tryz.sizeOf316
  t124 := Tryz.underlying250
  a124 := Tryz.isAgg250
  z124 := Tryz.sizeOf250
  v124 := Tryz.zeroValue250
  t138 := Tryz.underlying318
  a138 := Tryz.isAgg318
  z138 := Tryz.sizeOf318
  v138 := Tryz.zeroValue318
  t139 := Tryz.underlying319
  a139 := Tryz.isAgg319
  z139 := Tryz.sizeOf319
  v139 := Tryz.zeroValue319
  g3 := by kernel_rfl
  g4 := by kernel_rfl }
open Go.RowKit in
theorem Tryz.strings_Trim_one (s : ByteArray) (c : UInt8) (hc : c.toNat < 128) (w : World) (hs : s.size ≤ 9223372036854775807) :
    Calls Tryz.prog 160 #[.string s, .string ⟨#[c]⟩] w fun e w' => e = .returned (.string ⟨(Lib.trimB s.data.toList c).toArray⟩) ∧ (w' = w ∨ w' = w.drew) := Any.strings_Trim_one Tryz.lays160 s c hc w hs
def Tryz.lays103_ren : Go.Shelf.Ren := ⟨fun | 103 => 159 | 210 => 223 | 206 => 244 | n => n, fun | 9 => 9 | 4 => 4 | 24 => 134 | 3 => 3 | n => n, fun | n => n⟩
theorem Tryz.lays103 : Go.Proofs.Lays.n103 Tryz.prog Tryz.lays103_ren := {
  mixed := by kernel_rfl
  f103 := Tryz.func159.trans (congrArg some (by kernel_rfl))
  f206 := Tryz.func244.trans (congrArg some (by kernel_rfl))
  f210 := Tryz.func223.trans (congrArg some (by kernel_rfl))
  t3 := Tryz.underlying3
  a3 := Tryz.isAgg3
  z3 := Tryz.sizeOf3
  v3 := Tryz.zeroValue3
  t4 := Tryz.underlying4
  a4 := Tryz.isAgg4
  z4 := Tryz.sizeOf4
  v4 := Tryz.zeroValue4
  t9 := Tryz.underlying9
  a9 := Tryz.isAgg9
  z9 := Tryz.sizeOf9
  v9 := Tryz.zeroValue9
  t24 := Tryz.underlying134
  a24 := Tryz.isAgg134
  z24 := Tryz.sizeOf134
  v24 := Tryz.zeroValue134 }
open Go.RowKit in
theorem Tryz.strings_CutPrefix (s p : ByteArray) (w : World) :
    Calls Tryz.prog 159 #[.string s, .string p] w fun e w' => e = .returned (.tuple #[.string ⟨(Lib.trimPrefix s.data.toList p.data.toList).toArray⟩, .bool (Lib.hasPrefix s.data.toList p.data.toList)]) ∧ w' = w := Any.strings_CutPrefix Tryz.lays103 s p w
def Tryz.lays122_ren : Go.Shelf.Ren := ⟨fun | 122 => 154 | 215 => 212 | n => n, fun | 3 => 3 | 4 => 4 | n => n, fun | n => n⟩
theorem Tryz.lays122 : Go.Proofs.Lays.n122 Tryz.prog Tryz.lays122_ren := {
  mixed := by kernel_rfl
  f122 := Tryz.func154.trans (congrArg some (by kernel_rfl))
  f215 := Tryz.func212.trans (congrArg some (by kernel_rfl))
  t3 := Tryz.underlying3
  a3 := Tryz.isAgg3
  z3 := Tryz.sizeOf3
  v3 := Tryz.zeroValue3
  t4 := Tryz.underlying4
  a4 := Tryz.isAgg4
  z4 := Tryz.sizeOf4
  v4 := Tryz.zeroValue4 }
open Go.RowKit in
theorem Tryz.cmp_Compare_int (x y : Int) (w : World) :
    Calls Tryz.prog 154 #[.int .i64 x, .int .i64 y] w fun e w' => e = .returned (.int .i64 (Lib.compareInt x y)) ∧ w' = w := Any.cmp_Compare_int Tryz.lays122 x y w
def Tryz.laysM171_ren : Go.Shelf.Ren := ⟨fun | 171 => 65 | 243 => 111 | 246 => 162 | 283 => 231 | 284 => 232 | 285 => 233 | 286 => 234 | 129 => 181 | 317 => 280 | 318 => 281 | 319 => 282 | 320 => 283 | 337 => 306 | 338 => 307 | n => n, fun | 3 => 3 | 9 => 9 | 2 => 2 | 4 => 4 | 171 => 251 | 0 => 0 | 53 => 138 | 37 => 145 | 5 => 5 | 173 => 253 | 212 => 296 | 51 => 211 | 20 => 20 | 213 => 297 | 46 => 156 | 232 => 322 | 233 => 323 | n => n, fun | 17 => 1 | 18 => 6 | 19 => 7 | n => n⟩
theorem Tryz.laysM171 : Go.Proofs.LaysM.n171 Tryz.prog Tryz.laysM171_ren := {
  mixed := by kernel_rfl
  f129 := Tryz.func181.trans (congrArg some (by kernel_rfl))
  f171 := Tryz.func65.trans (congrArg some (by kernel_rfl))
  f243 := Tryz.func111.trans (congrArg some (by kernel_rfl))
  f246 := Tryz.func162.trans (congrArg some (by kernel_rfl))
  f283 := Tryz.func231.trans (congrArg some (by kernel_rfl))
  f284 := Tryz.func232.trans (congrArg some (by kernel_rfl))
  f285 := Tryz.func233.trans (congrArg some (by kernel_rfl))
  f286 := Tryz.func234.trans (congrArg some (by kernel_rfl))
  f317 := Tryz.func280.trans (congrArg some (by kernel_rfl))
  f318 := Tryz.func281.trans (congrArg some (by kernel_rfl))
  f319 := Tryz.func282.trans (congrArg some (by kernel_rfl))
  f320 := Tryz.func283.trans (congrArg some (by kernel_rfl))
  f337 := Tryz.func306.trans (congrArg some (by kernel_rfl))
  f338 := Tryz.func307.trans (congrArg some (by kernel_rfl))
  t0 := Tryz.underlying0
  a0 := Tryz.isAgg0
  z0 := Tryz.sizeOf0
  v0 := Tryz.zeroValue0
  t2 := Tryz.underlying2
  a2 := Tryz.isAgg2
  z2 := Tryz.sizeOf2
  v2 := Tryz.zeroValue2
  t3 := Tryz.underlying3
  a3 := Tryz.isAgg3
  z3 := Tryz.sizeOf3
  v3 := Tryz.zeroValue3
  t4 := Tryz.underlying4
  a4 := Tryz.isAgg4
  z4 := Tryz.sizeOf4
  v4 := Tryz.zeroValue4
  t5 := Tryz.underlying5
  a5 := Tryz.isAgg5
  z5 := Tryz.sizeOf5
  v5 := Tryz.zeroValue5
  t9 := Tryz.underlying9
  a9 := Tryz.isAgg9
  z9 := Tryz.sizeOf9
  v9 := Tryz.zeroValue9
  t20 := Tryz.underlying20
  a20 := Tryz.isAgg20
  z20 := Tryz.sizeOf20
  v20 := Tryz.zeroValue20
  t37 := Tryz.underlying145
  a37 := Tryz.isAgg145
  z37 := Tryz.sizeOf145
  v37 := Tryz.zeroValue145
  t46 := Tryz.underlying156
  a46 := Tryz.isAgg156
  z46 := Tryz.sizeOf156
  v46 := Tryz.zeroValue156
  t51 := Tryz.underlying211
  a51 := Tryz.isAgg211
  z51 := Tryz.sizeOf211
  v51 := Tryz.zeroValue211
  t53 := Tryz.underlying138
  a53 := Tryz.isAgg138
  z53 := Tryz.sizeOf138
  v53 := Tryz.zeroValue138
  t171 := Tryz.underlying251
  a171 := Tryz.isAgg251
  z171 := Tryz.sizeOf251
  v171 := Tryz.zeroValue251
  t173 := Tryz.underlying253
  a173 := Tryz.isAgg253
  z173 := Tryz.sizeOf253
  v173 := Tryz.zeroValue253
  t212 := Tryz.underlying296
  a212 := Tryz.isAgg296
  z212 := Tryz.sizeOf296
  v212 := Tryz.zeroValue296
  t213 := Tryz.underlying297
  a213 := Tryz.isAgg297
  z213 := Tryz.sizeOf297
  t232 := Tryz.underlying322
  a232 := Tryz.isAgg322
  z232 := Tryz.sizeOf322
  v232 := Tryz.zeroValue322
  t233 := Tryz.underlying323
  a233 := Tryz.isAgg323
  z233 := Tryz.sizeOf323
  v233 := Tryz.zeroValue323
  g17 := by kernel_rfl
  g18 := by kernel_rfl
  g19 := by kernel_rfl
  i0 := by kernel_rfl
  i2 := by kernel_rfl
  i3 := by kernel_rfl
  i4 := by kernel_rfl
  i5 := by kernel_rfl
  i9 := by kernel_rfl
  i20 := by kernel_rfl
  i37 := by kernel_rfl
  i46 := by kernel_rfl
  i51 := by kernel_rfl
  i53 := by kernel_rfl
  i171 := by kernel_rfl
  i173 := by kernel_rfl
  i212 := by kernel_rfl
  i232 := by kernel_rfl
  i233 := by kernel_rfl
  m17 := by kernel_rfl
  m18 := by kernel_rfl
  m19 := by kernel_rfl }
open Go.RowKit Go.Sort Go.Lib in
theorem Tryz.strconv_Itoa (n : Int) (h0 : -9223372036854775808 ≤ n) (h1 : n ≤ 9223372036854775807) (w : World) (htab : Lib.TabIs Tryz.prog w "internal/strconv.uint64pow10" .u64 Lib.pow10Tab) :
    Calls Tryz.prog 65 #[.int .i64 n] w fun e w' => e = .returned (.string ⟨(Lib.itoa n).toArray⟩) ∧ ∃ k os, w' = grow (w.drewN k) os := Any.strconv_Itoa Tryz.laysM171 n h0 h1 w htab
def Tryz.lays171_ren : Go.Shelf.Ren := ⟨fun | 171 => 65 | 243 => 111 | 246 => 162 | 283 => 231 | 284 => 232 | 285 => 233 | 286 => 234 | 129 => 181 | 317 => 280 | 318 => 281 | 319 => 282 | 320 => 283 | 337 => 306 | 338 => 307 | n => n, fun | 3 => 3 | 9 => 9 | 2 => 2 | 4 => 4 | 171 => 251 | 0 => 0 | 53 => 138 | 37 => 145 | 5 => 5 | 173 => 253 | 212 => 296 | 51 => 211 | 20 => 20 | 213 => 297 | 46 => 156 | 232 => 322 | 233 => 323 | n => n, fun | 17 => 1 | 18 => 6 | 19 => 7 | n => n⟩
theorem Tryz.lays171 : Go.Proofs.Lays.n171 Tryz.prog Tryz.lays171_ren := {
  mixed := by kernel_rfl
  f129 := Tryz.func181.trans (congrArg some (by kernel_rfl))
  f171 := Tryz.func65.trans (congrArg some (by kernel_rfl))
  f243 := Tryz.func111.trans (congrArg some (by kernel_rfl))
  f246 := Tryz.func162.trans (congrArg some (by kernel_rfl))
  f283 := Tryz.func231.trans (congrArg some (by kernel_rfl))
  f284 := Tryz.func232.trans (congrArg some (by kernel_rfl))
  f285 := Tryz.func233.trans (congrArg some (by kernel_rfl))
  f286 := Tryz.func234.trans (congrArg some (by kernel_rfl))
  f317 := Tryz.func280.trans (congrArg some (by kernel_rfl))
  f318 := Tryz.func281.trans (congrArg some (by kernel_rfl))
  f319 := Tryz.func282.trans (congrArg some (by kernel_rfl))
  f320 := Tryz.func283.trans (congrArg some (by kernel_rfl))
  f337 := Tryz.func306.trans (congrArg some (by kernel_rfl))
  f338 := Tryz.func307.trans (congrArg some (by kernel_rfl))
  t0 := Tryz.underlying0
  a0 := Tryz.isAgg0
  z0 := Tryz.sizeOf0
  v0 := Tryz.zeroValue0
  t2 := Tryz.underlying2
  a2 := Tryz.isAgg2
  z2 := Tryz.sizeOf2
  v2 := Tryz.zeroValue2
  t3 := Tryz.underlying3
  a3 := Tryz.isAgg3
  z3 := Tryz.sizeOf3
  v3 := Tryz.zeroValue3
  t4 := Tryz.underlying4
  a4 := Tryz.isAgg4
  z4 := Tryz.sizeOf4
  v4 := Tryz.zeroValue4
  t5 := Tryz.underlying5
  a5 := Tryz.isAgg5
  z5 := Tryz.sizeOf5
  v5 := Tryz.zeroValue5
  t9 := Tryz.underlying9
  a9 := Tryz.isAgg9
  z9 := Tryz.sizeOf9
  v9 := Tryz.zeroValue9
  t20 := Tryz.underlying20
  a20 := Tryz.isAgg20
  z20 := Tryz.sizeOf20
  v20 := Tryz.zeroValue20
  t37 := Tryz.underlying145
  a37 := Tryz.isAgg145
  z37 := Tryz.sizeOf145
  v37 := Tryz.zeroValue145
  t46 := Tryz.underlying156
  a46 := Tryz.isAgg156
  z46 := Tryz.sizeOf156
  v46 := Tryz.zeroValue156
  t51 := Tryz.underlying211
  a51 := Tryz.isAgg211
  z51 := Tryz.sizeOf211
  v51 := Tryz.zeroValue211
  t53 := Tryz.underlying138
  a53 := Tryz.isAgg138
  z53 := Tryz.sizeOf138
  v53 := Tryz.zeroValue138
  t171 := Tryz.underlying251
  a171 := Tryz.isAgg251
  z171 := Tryz.sizeOf251
  v171 := Tryz.zeroValue251
  t173 := Tryz.underlying253
  a173 := Tryz.isAgg253
  z173 := Tryz.sizeOf253
  v173 := Tryz.zeroValue253
  t212 := Tryz.underlying296
  a212 := Tryz.isAgg296
  z212 := Tryz.sizeOf296
  v212 := Tryz.zeroValue296
  t213 := Tryz.underlying297
  a213 := Tryz.isAgg297
  z213 := Tryz.sizeOf297
  t232 := Tryz.underlying322
  a232 := Tryz.isAgg322
  z232 := Tryz.sizeOf322
  v232 := Tryz.zeroValue322
  t233 := Tryz.underlying323
  a233 := Tryz.isAgg323
  z233 := Tryz.sizeOf323
  v233 := Tryz.zeroValue323
  g17 := by kernel_rfl
  g18 := by kernel_rfl
  g19 := by kernel_rfl }
open Go.RowKit Go.Sort Go.Lib in
theorem Tryz.strconv_Itoa_small (i : Nat) (hi : i < 100) (w : World) :
    Calls Tryz.prog 65 #[.int .i64 i] w fun e w' => e = .returned (.string ⟨(Lib.decDigits i).toArray⟩) ∧ w' = w := Any.strconv_Itoa_small Tryz.lays171 i hi w
def Tryz.laysC172_ren : Go.Shelf.Ren := ⟨fun | 172 => 300 | 244 => 311 | 245 => 165 | 247 => 317 | 279 => 237 | 280 => 238 | 281 => 239 | 282 => 240 | 287 => 164 | 316 => 284 | 171 => 65 | 205 => 285 | 321 => 235 | 322 => 236 | 243 => 111 | 246 => 162 | 283 => 231 | 284 => 232 | 285 => 233 | 286 => 234 | 129 => 181 | 317 => 280 | 318 => 281 | 319 => 282 | 320 => 283 | 337 => 306 | 338 => 307 | n => n, fun | 9 => 9 | 3 => 3 | 75 => 140 | 76 => 149 | 4 => 4 | 5 => 5 | 167 => 255 | 37 => 145 | 0 => 0 | 85 => 324 | 2 => 2 | 168 => 257 | 53 => 138 | 175 => 141 | 46 => 156 | 210 => 300 | 127 => 202 | 145 => 315 | 143 => 313 | 21 => 21 | 171 => 251 | 173 => 253 | 212 => 296 | 51 => 211 | 20 => 20 | 213 => 297 | 232 => 322 | 233 => 323 | 80 => 153 | n => n, fun | 15 => 2 | 16 => 3 | 17 => 1 | 18 => 6 | 19 => 7 | n => n⟩
theorem Tryz.laysC172 : Go.Proofs.LaysC.n172 Tryz.prog Tryz.laysC172_ren := {
  mixed := by kernel_rfl
  f129 := Tryz.func181.trans (congrArg some (by kernel_rfl))
  f171 := Tryz.func65.trans (congrArg some (by kernel_rfl))
  f172 := Tryz.func300.trans (congrArg some (by kernel_rfl))
  f205 := Tryz.func285.trans (congrArg some (by kernel_rfl))
  f243 := Tryz.func111.trans (congrArg some (by kernel_rfl))
  f244 := Tryz.func311.trans (congrArg some (by kernel_rfl))
  f245 := Tryz.func165.trans (congrArg some (by kernel_rfl))
  f246 := Tryz.func162.trans (congrArg some (by kernel_rfl))
  f247 := Tryz.func317.trans (congrArg some (by kernel_rfl))
  f279 := Tryz.func237.trans (congrArg some (by kernel_rfl))
  f280 := Tryz.func238.trans (congrArg some (by kernel_rfl))
  f281 := Tryz.func239.trans (congrArg some (by kernel_rfl))
  f282 := Tryz.func240.trans (congrArg some (by kernel_rfl))
  f283 := Tryz.func231.trans (congrArg some (by kernel_rfl))
  f284 := Tryz.func232.trans (congrArg some (by kernel_rfl))
  f285 := Tryz.func233.trans (congrArg some (by kernel_rfl))
  f286 := Tryz.func234.trans (congrArg some (by kernel_rfl))
  f287 := Tryz.func164.trans (congrArg some (by kernel_rfl))
  f316 := Tryz.func284.trans (congrArg some (by kernel_rfl))
  f317 := Tryz.func280.trans (congrArg some (by kernel_rfl))
  f318 := Tryz.func281.trans (congrArg some (by kernel_rfl))
  f319 := Tryz.func282.trans (congrArg some (by kernel_rfl))
  f320 := Tryz.func283.trans (congrArg some (by kernel_rfl))
  f321 := Tryz.func235.trans (congrArg some (by kernel_rfl))
  f322 := Tryz.func236.trans (congrArg some (by kernel_rfl))
  f337 := Tryz.func306.trans (congrArg some (by kernel_rfl))
  f338 := Tryz.func307.trans (congrArg some (by kernel_rfl))
  t0 := Tryz.underlying0
  a0 := Tryz.isAgg0
  z0 := Tryz.sizeOf0
  v0 := Tryz.zeroValue0
  t2 := Tryz.underlying2
  a2 := Tryz.isAgg2
  z2 := Tryz.sizeOf2
  v2 := Tryz.zeroValue2
  t3 := Tryz.underlying3
  a3 := Tryz.isAgg3
  z3 := Tryz.sizeOf3
  v3 := Tryz.zeroValue3
  t4 := Tryz.underlying4
  a4 := Tryz.isAgg4
  z4 := Tryz.sizeOf4
  v4 := Tryz.zeroValue4
  t5 := Tryz.underlying5
  a5 := Tryz.isAgg5
  z5 := Tryz.sizeOf5
  v5 := Tryz.zeroValue5
  t9 := Tryz.underlying9
  a9 := Tryz.isAgg9
  z9 := Tryz.sizeOf9
  v9 := Tryz.zeroValue9
  t20 := Tryz.underlying20
  a20 := Tryz.isAgg20
  z20 := Tryz.sizeOf20
  v20 := Tryz.zeroValue20
  t21 := Tryz.underlying21
  a21 := Tryz.isAgg21
  z21 := Tryz.sizeOf21
  v21 := Tryz.zeroValue21
  t37 := Tryz.underlying145
  a37 := Tryz.isAgg145
  z37 := Tryz.sizeOf145
  v37 := Tryz.zeroValue145
  t46 := Tryz.underlying156
  a46 := Tryz.isAgg156
  z46 := Tryz.sizeOf156
  v46 := Tryz.zeroValue156
  t51 := Tryz.underlying211
  a51 := Tryz.isAgg211
  z51 := Tryz.sizeOf211
  v51 := Tryz.zeroValue211
  t53 := Tryz.underlying138
  a53 := Tryz.isAgg138
  z53 := Tryz.sizeOf138
  v53 := Tryz.zeroValue138
  t75 := Tryz.underlying140
  a75 := Tryz.isAgg140
  z75 := Tryz.sizeOf140
  v75 := Tryz.zeroValue140
  t76 := Tryz.underlying149
  a76 := Tryz.isAgg149
  z76 := Tryz.sizeOf149
  v76 := Tryz.zeroValue149
  t85 := Tryz.underlying324
  a85 := Tryz.isAgg324
  z85 := Tryz.sizeOf324
  v85 := Tryz.zeroValue324
  t127 := Tryz.underlying202
  a127 := Tryz.isAgg202
  z127 := Tryz.sizeOf202
  v127 := Tryz.zeroValue202
  t143 := Tryz.underlying313
  a143 := Tryz.isAgg313
  z143 := Tryz.sizeOf313
  v143 := Tryz.zeroValue313
  t145 := Tryz.underlying315
  a145 := Tryz.isAgg315
  z145 := Tryz.sizeOf315
  v145 := Tryz.zeroValue315
  t167 := Tryz.underlying255
  a167 := Tryz.isAgg255
  z167 := Tryz.sizeOf255
  v167 := Tryz.zeroValue255
  t168 := Tryz.underlying257
  a168 := Tryz.isAgg257
  z168 := Tryz.sizeOf257
  v168 := Tryz.zeroValue257
  t171 := Tryz.underlying251
  a171 := Tryz.isAgg251
  z171 := Tryz.sizeOf251
  v171 := Tryz.zeroValue251
  t173 := Tryz.underlying253
  a173 := Tryz.isAgg253
  z173 := Tryz.sizeOf253
  v173 := Tryz.zeroValue253
  t175 := Tryz.underlying141
  a175 := Tryz.isAgg141
  z175 := Tryz.sizeOf141
  v175 := Tryz.zeroValue141
  t210 := Tryz.underlying300
  a210 := Tryz.isAgg300
  z210 := Tryz.sizeOf300
  v210 := Tryz.zeroValue300
  t212 := Tryz.underlying296
  a212 := Tryz.isAgg296
  z212 := Tryz.sizeOf296
  v212 := Tryz.zeroValue296
  t213 := Tryz.underlying297
  a213 := Tryz.isAgg297
  z213 := Tryz.sizeOf297
  t232 := Tryz.underlying322
  a232 := Tryz.isAgg322
  z232 := Tryz.sizeOf322
  v232 := Tryz.zeroValue322
  t233 := Tryz.underlying323
  a233 := Tryz.isAgg323
  z233 := Tryz.sizeOf323
  v233 := Tryz.zeroValue323
  g15 := by kernel_rfl
  g16 := by kernel_rfl
  g17 := by kernel_rfl
  g18 := by kernel_rfl
  g19 := by kernel_rfl
  t80 := Tryz.underlying153
  a80 := Tryz.isAgg153
  z80 := Tryz.sizeOf153
  v80 := Tryz.zeroValue153
  i0 := by kernel_rfl
  i2 := by kernel_rfl
  i3 := by kernel_rfl
  i4 := by kernel_rfl
  i5 := by kernel_rfl
  i9 := by kernel_rfl
  i20 := by kernel_rfl
  i21 := by kernel_rfl
  i37 := by kernel_rfl
  i46 := by kernel_rfl
  i51 := by kernel_rfl
  i53 := by kernel_rfl
  i75 := by kernel_rfl
  i76 := by kernel_rfl
  i80 := by kernel_rfl
  i85 := by kernel_rfl
  i127 := by kernel_rfl
  i143 := by kernel_rfl
  i145 := by kernel_rfl
  i167 := by kernel_rfl
  i168 := by kernel_rfl
  i171 := by kernel_rfl
  i173 := by kernel_rfl
  i175 := by kernel_rfl
  i210 := by kernel_rfl
  i212 := by kernel_rfl
  i232 := by kernel_rfl
  i233 := by kernel_rfl
  m15 := by kernel_rfl
  m16 := by kernel_rfl
  m17 := by kernel_rfl
  m18 := by kernel_rfl
  m19 := by kernel_rfl
  c0 := by kernel_rfl
  c2 := by kernel_rfl
  c3 := by kernel_rfl
  c4 := by kernel_rfl
  c5 := by kernel_rfl
  c9 := by kernel_rfl
  c20 := by kernel_rfl
  c21 := by kernel_rfl
  c37 := by kernel_rfl
  c46 := by kernel_rfl
  c51 := by kernel_rfl
  c53 := by kernel_rfl
  c75 := by kernel_rfl
  c76 := by kernel_rfl
  c80 := by kernel_rfl
  c85 := by kernel_rfl
  c127 := by kernel_rfl
  c143 := by kernel_rfl
  c145 := by kernel_rfl
  c167 := by kernel_rfl
  c168 := by kernel_rfl
  c171 := by kernel_rfl
  c173 := by kernel_rfl
  c175 := by kernel_rfl
  c210 := by kernel_rfl
  c212 := by kernel_rfl
  c213 := by kernel_rfl
  c232 := by kernel_rfl
  c233 := by kernel_rfl }
open Go.RowKit in
theorem Tryz.strconv_Atoi_ok (s : ByteArray) (hmax : s.size ≤ 9223372036854775806) (v : Int) (h : Lib.atoiAll s.data.toList = .ok v) (w : World) :
    Calls Tryz.prog 300 #[.string s] w fun e w' => e = .returned (.tuple #[.int .i64 v, .nilIface]) ∧ (w' = w ∨ ∃ t, w' = Lib.bytesWorld w 5 t) := Any.strconv_Atoi_ok Tryz.laysC172 s hmax v h w
open Go.RowKit in
theorem Tryz.strconv_Atoi_syntax_var (s : ByteArray) (hlim : s.size ≤ 281474976710656) (h : Lib.atoiAll s.data.toList = Lib.atoiAll []) (tp : TypeId) (p : Value) (w : World) (hvar : w.var? Tryz.prog "strconv.ErrSyntax" = some #[.iface tp p]) :
    Calls Tryz.prog 300 #[.string s] w fun e w' => ∃ N, e = .returned (.tuple #[.int .i64 0, .iface 257 (.pointer (some ⟨N, 0, none⟩))]) ∧ w.heap.size ≤ N ∧ w'.heap[N]? = some (.cells #[.string ⟨#[65, 116, 111, 105]⟩, .string s, .iface tp p] 300 (0, 0)) ∧ Below w.heap.size w w' := Any.strconv_Atoi_syntax_var Tryz.laysC172 s hlim h tp p w hvar
open Go.RowKit in
theorem Tryz.strconv_Atoi_range_var (s : ByteArray) (hlim : s.size ≤ 281474976710656) (h : Lib.atoiAll s.data.toList = .range) (tp : TypeId) (p : Value) (w : World) (hvar : w.var? Tryz.prog "strconv.ErrRange" = some #[.iface tp p]) :
    Calls Tryz.prog 300 #[.string s] w fun e w' => ∃ N, e = .returned (.tuple #[.int .i64 (Lib.atoiSat s.data.toList), .iface 257 (.pointer (some ⟨N, 0, none⟩))]) ∧ w.heap.size ≤ N ∧ w'.heap[N]? = some (.cells #[.string ⟨#[65, 116, 111, 105]⟩, .string s, .iface tp p] 300 (0, 0)) ∧ Below w.heap.size w w' := Any.strconv_Atoi_range_var Tryz.laysC172 s hlim h tp p w hvar
def Tryz.lays219_ren : Go.Shelf.Ren := ⟨fun | 219 => 316 | 217 => 318 | 225 => 315 | 224 => 314 | 267 => 319 | 266 => 320 | 314 => 321 | n => n, fun | 9 => 9 | 3 => 3 | 4 => 4 | 5 => 5 | 46 => 156 | 146 => 262 | 51 => 211 | n => n, fun | 1 => 0 | n => n⟩
theorem Tryz.lays219 : Go.Proofs.Lays.n219 Tryz.prog Tryz.lays219_ren := {
  mixed := by kernel_rfl
  f217 := Tryz.func318.trans (congrArg some (by kernel_rfl))
  f219 := Tryz.func316.trans (congrArg some (by kernel_rfl))
  f224 := Tryz.func314.trans (congrArg some (by kernel_rfl))
  f225 := Tryz.func315.trans (congrArg some (by kernel_rfl))
  f266 := Tryz.func320.trans (congrArg some (by kernel_rfl))
  f267 := Tryz.func319.trans (congrArg some (by kernel_rfl))
  f314 := Tryz.func321.trans (congrArg some (by kernel_rfl))
  t3 := Tryz.underlying3
  a3 := Tryz.isAgg3
  z3 := Tryz.sizeOf3
  v3 := Tryz.zeroValue3
  t4 := Tryz.underlying4
  a4 := Tryz.isAgg4
  z4 := Tryz.sizeOf4
  v4 := Tryz.zeroValue4
  t5 := Tryz.underlying5
  a5 := Tryz.isAgg5
  z5 := Tryz.sizeOf5
  v5 := Tryz.zeroValue5
  t9 := Tryz.underlying9
  a9 := Tryz.isAgg9
  z9 := Tryz.sizeOf9
  v9 := Tryz.zeroValue9
  t46 := Tryz.underlying156
  a46 := Tryz.isAgg156
  z46 := Tryz.sizeOf156
  v46 := Tryz.zeroValue156
  t51 := Tryz.underlying211
  a51 := Tryz.isAgg211
  z51 := Tryz.sizeOf211
  v51 := Tryz.zeroValue211
  t146 := Tryz.underlying262
  a146 := Tryz.isAgg262
  z146 := Tryz.sizeOf262
  v146 := Tryz.zeroValue262
  g1 := by kernel_rfl }
open Go.RowKit Go.Lib in
theorem Tryz.stringslite_Index_one (s : ByteArray) (c : UInt8) (w : World) :
    Calls Tryz.prog 316 #[.string s, .string ⟨#[c]⟩] w fun e w' => e = .returned (.int .i64 (Lib.indexByte s.data.toList c)) ∧ w' = w := Any.stringslite_Index_one Tryz.lays219 s c w
def Tryz.lays101_ren : Go.Shelf.Ren := ⟨fun | 101 => 298 | 208 => 309 | 206 => 244 | n => n, fun | 9 => 9 | 4 => 4 | 3 => 3 | n => n, fun | n => n⟩
theorem Tryz.lays101 : Go.Proofs.Lays.n101 Tryz.prog Tryz.lays101_ren := {
  mixed := by kernel_rfl
  f101 := Tryz.func298.trans (congrArg some (by kernel_rfl))
  f206 := Tryz.func244.trans (congrArg some (by kernel_rfl))
  f208 := Tryz.func309.trans (congrArg some (by kernel_rfl))
  t3 := Tryz.underlying3
  a3 := Tryz.isAgg3
  z3 := Tryz.sizeOf3
  v3 := Tryz.zeroValue3
  t4 := Tryz.underlying4
  a4 := Tryz.isAgg4
  z4 := Tryz.sizeOf4
  v4 := Tryz.zeroValue4
  t9 := Tryz.underlying9
  a9 := Tryz.isAgg9
  z9 := Tryz.sizeOf9
  v9 := Tryz.zeroValue9 }
open Go.RowKit Go.Lib in
theorem Tryz.strings_TrimPrefix (s p : ByteArray) (w : World) :
    Calls Tryz.prog 298 #[.string s, .string p] w fun e w' => e = .returned (.string ⟨(Lib.trimPrefix s.data.toList p.data.toList).toArray⟩) ∧ w' = w := Any.strings_TrimPrefix Tryz.lays101 s p w
end Go.Proofs
