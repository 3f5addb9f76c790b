/-
  DERIVED: THE SHELF's CONTRACTS AT THIS DUMP, IN PLAIN WORDS (tools/lay-plain.mjs out of 'TryzShelfSel.lean', which tools/lay-shelf.mjs wrote): THE SAME DECLARATIONS UNDER THE SAME NAMES: 'import', 'namespace', 'open', 'def', 'theorem' AND NOTHING ELSE: no command of the shelf's: FOR A HAND-IN. Each laying: the table of numbers ('.._ren') and one theorem, a field a fact of the dump's own or the kernel's comparison; each contract: ONE APPLICATION.
-/
import Derived.Shelf.Strings.Builder1
import Derived.Shelf.Strings.Builder2
import Derived.Shelf.Strings.Trim
import Derived.Shelf.Small.Utf8
import Derived.Shelf.Small.Bits
import Derived.Shelf.Small.Strs
import Derived.Shelf.Small.Wraps
import Derived.Shelf.Strings.BuilderF
import Derived.Shelf.Strings.BuilderK
import Derived.Shelf.Strings.Builder2Cap
import Derived.Shelf.Strconv.Atoi
import Derived.Shelf.Strconv.Itoa0
import Derived.Shelf.Strconv.Itoa1
import Derived.Shelf.LaysM
import Derived.Shelf.Strconv.Itoa2
import Derived.Shelf.Strconv.Itoa3
import Derived.Shelf.Strconv.AtoiErrFast
import Derived.Shelf.Strconv.ParseIntEmpty
import Derived.Shelf.Strconv.AtoiFail
import Derived.Shelf.Strconv.Clone
import Derived.Shelf.Strconv.SyntaxError
import Derived.Shelf.LaysC
import Derived.Shelf.Strconv.ToError
import Derived.Shelf.Strconv.Lower
import Derived.Shelf.Strconv.ParseUint10
import Derived.Shelf.Strconv.ParseUint10Empty
import Derived.Shelf.Strconv.ParseUint10Any
import Derived.Shelf.Strconv.ParseInt10
import Derived.Shelf.Strconv.AtoiLong
import Derived.Shelf.Strconv.AtoiInnerAll
import Derived.Shelf.Strconv.RangeError
import Derived.Shelf.Strconv.ToErrorRange
import Derived.Shelf.Strconv.AtoiAll
import Derived.Shelf.Strconv.ErrVarAll
import Derived.Shelf.Strconv.ParseUintEmpty
import Derived.Shelf.Strconv.ParseUint10b64
import Derived.Shelf.Strconv.ParseUint10b32
import Derived.Shelf.Strconv.ParseUint10b16
import Derived.Shelf.Strconv.ParseUint10b8
import Derived.Shelf.Strconv.ParseUint10At
import Derived.Shelf.Strconv.ParseInt10At64
import Derived.Shelf.Strconv.ParseInt10At32
import Derived.Shelf.Strconv.ParseInt10At16
import Derived.Shelf.Strconv.ParseInt10At8
import Derived.Shelf.Strconv.ParseInt10All
import Derived.Ground.MpProg
import Derived.Shelf.Pu.ParseUintPublic10
import Derived.Shelf.Strings.Search1
import Derived.Shelf.Strings.Search2
import Derived.Shelf.Strings.Cut
import Derived.Shelf.Strings.Shaped
import Derived.Shelf.Strings.Prefix
import Derived.Shelf.Strings.Runes
import Derived.Shelf.Strings.AsciiSet
import Derived.Shelf.Bits.Mul64
import Derived.Shelf.Strings.Repeat
import Derived.Shelf.Unicode.DecodeSlow
import Derived.Shelf.Strings.BuilderCap
import Derived.Ground.SlgnProg
import Derived.Shelf.SlicesG.Equal
import Derived.Shelf.SlicesG.CompactS
import Derived.Ground.SlgmProg
import Derived.Shelf.SortM.Plain
import Derived.Shelf.SortM.SortNone
import Derived.Shelf.Strings.SlTrimAscii
import Derived.Test.YtmfjmngebldanaaGreatDoorProg
namespace Go.Proofs
open Go.Shelf
def Tryz.lays161_ren : Go.Shelf.Ren := ⟨fun | 161 => 244 | 231 => 167 | 227 => 169 | 233 => 170 | 235 => 172 | 228 => 198 | 197 => 199 | 151 => 200 | 260 => 232 | 152 => 233 | 137 => 257 | 119 => 258 | 224 => 259 | 225 => 260 | 217 => 261 | 266 => 279 | n => n, fun | 9 => 9 | 4 => 4 | 3 => 3 | 5 => 5 | 117 => 185 | 116 => 184 | 0 => 0 | 124 => 188 | 105 => 222 | 21 => 21 | 119 => 261 | 46 => 85 | 139 => 264 | 138 => 263 | n => n, fun | 3 => 0 | 4 => 1 | n => n⟩
theorem Tryz.lays161 : Go.Proofs.Lays.n161 Tryz.prog Tryz.lays161_ren := {
  mixed := by kernel_rfl
  f119 := Tryz.func258.trans (congrArg some (by kernel_rfl))
  f137 := Tryz.func257.trans (congrArg some (by kernel_rfl))
  f151 := Tryz.func200.trans (congrArg some (by kernel_rfl))
  f152 := Tryz.func233.trans (congrArg some (by kernel_rfl))
  f161 := Tryz.func244.trans (congrArg some (by kernel_rfl))
  f197 := Tryz.func199.trans (congrArg some (by kernel_rfl))
  f217 := Tryz.func261.trans (congrArg some (by kernel_rfl))
  f224 := Tryz.func259.trans (congrArg some (by kernel_rfl))
  f225 := Tryz.func260.trans (congrArg some (by kernel_rfl))
  f227 := Tryz.func169.trans (congrArg some (by kernel_rfl))
  f228 := Tryz.func198.trans (congrArg some (by kernel_rfl))
  f231 := Tryz.func167.trans (congrArg some (by kernel_rfl))
  f233 := Tryz.func170.trans (congrArg some (by kernel_rfl))
  f235 := Tryz.func172.trans (congrArg some (by kernel_rfl))
  f260 := Tryz.func232.trans (congrArg some (by kernel_rfl))
  f266 := Tryz.func279.trans (congrArg some (by kernel_rfl))
  t0 := Tryz.underlying0
  a0 := Tryz.isAgg0
  z0 := Tryz.sizeOf0
  v0 := Tryz.zeroValue0
  t3 := Tryz.underlying3
  a3 := Tryz.isAgg3
  z3 := Tryz.sizeOf3
  v3 := Tryz.zeroValue3
  t4 := Tryz.underlying4
  a4 := Tryz.isAgg4
  z4 := Tryz.sizeOf4
  v4 := Tryz.zeroValue4
  t5 := Tryz.underlying5
  a5 := Tryz.isAgg5
  z5 := Tryz.sizeOf5
  v5 := Tryz.zeroValue5
  t9 := Tryz.underlying9
  a9 := Tryz.isAgg9
  z9 := Tryz.sizeOf9
  v9 := Tryz.zeroValue9
  t21 := Tryz.underlying21
  a21 := Tryz.isAgg21
  z21 := Tryz.sizeOf21
  v21 := Tryz.zeroValue21
  t46 := Tryz.underlying85
  a46 := Tryz.isAgg85
  z46 := Tryz.sizeOf85
  v46 := Tryz.zeroValue85
  t105 := Tryz.underlying222
  a105 := Tryz.isAgg222
  z105 := Tryz.sizeOf222
  v105 := Tryz.zeroValue222
  t116 := Tryz.underlying184
  a116 := Tryz.isAgg184
  z116 := Tryz.sizeOf184
  t117 := Tryz.underlying185
  a117 := Tryz.isAgg185
  z117 := Tryz.sizeOf185
  v117 := Tryz.zeroValue185
  t119 := Tryz.underlying261
  a119 := Tryz.isAgg261
  z119 := Tryz.sizeOf261
  t124 := Tryz.underlying188
  a124 := Tryz.isAgg188
  z124 := Tryz.sizeOf188
  v124 := Tryz.zeroValue188
  t138 := Tryz.underlying263
  a138 := Tryz.isAgg263
  z138 := Tryz.sizeOf263
  v138 := Tryz.zeroValue263
  t139 := Tryz.underlying264
  a139 := Tryz.isAgg264
  z139 := Tryz.sizeOf264
  v139 := Tryz.zeroValue264
  g3 := by kernel_rfl
  g4 := by kernel_rfl }
open Go.RowKit in
theorem Tryz.strings_TrimLeft_one (s : ByteArray) (c : UInt8) (hc : c.toNat < 128) (w : World) :
    Calls Tryz.prog 244 #[.string s, .string ⟨#[c]⟩] w fun e w' => e = .returned (.string ⟨(Lib.trimLeftB s.data.toList c).toArray⟩) ∧ w' = w := Any.strings_TrimLeft_one Tryz.lays161 s c hc w
def Tryz.lays160_ren : Go.Shelf.Ren := ⟨fun | 160 => 141 | 232 => 168 | 231 => 167 | 227 => 169 | 234 => 171 | 233 => 170 | 236 => 173 | 235 => 172 | 228 => 198 | 271 => 201 | 151 => 200 | 197 => 199 | 120 => 234 | 152 => 233 | 260 => 232 | 137 => 257 | 119 => 258 | 224 => 259 | 225 => 260 | 217 => 261 | 266 => 279 | n => n, fun | 9 => 9 | 4 => 4 | 3 => 3 | 5 => 5 | 117 => 185 | 116 => 184 | 0 => 0 | 124 => 188 | 21 => 21 | 105 => 222 | 46 => 85 | 119 => 261 | 139 => 264 | 138 => 263 | n => n, fun | 3 => 0 | 4 => 1 | n => n⟩
theorem Tryz.lays160 : Go.Proofs.Lays.n160 Tryz.prog Tryz.lays160_ren := {
  mixed := by kernel_rfl
  f119 := Tryz.func258.trans (congrArg some (by kernel_rfl))
  f120 := Tryz.func234.trans (congrArg some (by kernel_rfl))
  f137 := Tryz.func257.trans (congrArg some (by kernel_rfl))
  f151 := Tryz.func200.trans (congrArg some (by kernel_rfl))
  f152 := Tryz.func233.trans (congrArg some (by kernel_rfl))
  f160 := Tryz.func141.trans (congrArg some (by kernel_rfl))
  f197 := Tryz.func199.trans (congrArg some (by kernel_rfl))
  f217 := Tryz.func261.trans (congrArg some (by kernel_rfl))
  f224 := Tryz.func259.trans (congrArg some (by kernel_rfl))
  f225 := Tryz.func260.trans (congrArg some (by kernel_rfl))
  f227 := Tryz.func169.trans (congrArg some (by kernel_rfl))
  f228 := Tryz.func198.trans (congrArg some (by kernel_rfl))
  f231 := Tryz.func167.trans (congrArg some (by kernel_rfl))
  f232 := Tryz.func168.trans (congrArg some (by kernel_rfl))
  f233 := Tryz.func170.trans (congrArg some (by kernel_rfl))
  f234 := Tryz.func171.trans (congrArg some (by kernel_rfl))
  f235 := Tryz.func172.trans (congrArg some (by kernel_rfl))
  f236 := Tryz.func173.trans (congrArg some (by kernel_rfl))
  f260 := Tryz.func232.trans (congrArg some (by kernel_rfl))
  f266 := Tryz.func279.trans (congrArg some (by kernel_rfl))
  f271 := Tryz.func201.trans (congrArg some (by kernel_rfl))
  t0 := Tryz.underlying0
  a0 := Tryz.isAgg0
  z0 := Tryz.sizeOf0
  v0 := Tryz.zeroValue0
  t3 := Tryz.underlying3
  a3 := Tryz.isAgg3
  z3 := Tryz.sizeOf3
  v3 := Tryz.zeroValue3
  t4 := Tryz.underlying4
  a4 := Tryz.isAgg4
  z4 := Tryz.sizeOf4
  v4 := Tryz.zeroValue4
  t5 := Tryz.underlying5
  a5 := Tryz.isAgg5
  z5 := Tryz.sizeOf5
  v5 := Tryz.zeroValue5
  t9 := Tryz.underlying9
  a9 := Tryz.isAgg9
  z9 := Tryz.sizeOf9
  v9 := Tryz.zeroValue9
  t21 := Tryz.underlying21
  a21 := Tryz.isAgg21
  z21 := Tryz.sizeOf21
  v21 := Tryz.zeroValue21
  t46 := Tryz.underlying85
  a46 := Tryz.isAgg85
  z46 := Tryz.sizeOf85
  v46 := Tryz.zeroValue85
  t105 := Tryz.underlying222
  a105 := Tryz.isAgg222
  z105 := Tryz.sizeOf222
  v105 := Tryz.zeroValue222
  t116 := Tryz.underlying184
  a116 := Tryz.isAgg184
  z116 := Tryz.sizeOf184
  t117 := Tryz.underlying185
  a117 := Tryz.isAgg185
  z117 := Tryz.sizeOf185
  v117 := Tryz.zeroValue185
  t119 := Tryz.underlying261
  a119 := Tryz.isAgg261
  z119 := Tryz.sizeOf261
  t124 := Tryz.underlying188
  a124 := Tryz.isAgg188
  z124 := Tryz.sizeOf188
  v124 := Tryz.zeroValue188
  t138 := Tryz.underlying263
  a138 := Tryz.isAgg263
  z138 := Tryz.sizeOf263
  v138 := Tryz.zeroValue263
  t139 := Tryz.underlying264
  a139 := Tryz.isAgg264
  z139 := Tryz.sizeOf264
  v139 := Tryz.zeroValue264
  g3 := by kernel_rfl
  g4 := by kernel_rfl }
open Go.RowKit in
theorem Tryz.strings_Trim_one (s : ByteArray) (c : UInt8) (hc : c.toNat < 128) (w : World) (hs : s.size ≤ 9223372036854775807) :
    Calls Tryz.prog 141 #[.string s, .string ⟨#[c]⟩] w fun e w' => e = .returned (.string ⟨(Lib.trimB s.data.toList c).toArray⟩) ∧ (w' = w ∨ w' = w.drew) := Any.strings_Trim_one Tryz.lays160 s c hc w hs
def Tryz.lays103_ren : Go.Shelf.Ren := ⟨fun | 103 => 243 | 210 => 269 | 206 => 231 | n => n, fun | 9 => 9 | 4 => 4 | 24 => 205 | 3 => 3 | n => n, fun | n => n⟩
theorem Tryz.lays103 : Go.Proofs.Lays.n103 Tryz.prog Tryz.lays103_ren := {
  mixed := by kernel_rfl
  f103 := Tryz.func243.trans (congrArg some (by kernel_rfl))
  f206 := Tryz.func231.trans (congrArg some (by kernel_rfl))
  f210 := Tryz.func269.trans (congrArg some (by kernel_rfl))
  t3 := Tryz.underlying3
  a3 := Tryz.isAgg3
  z3 := Tryz.sizeOf3
  v3 := Tryz.zeroValue3
  t4 := Tryz.underlying4
  a4 := Tryz.isAgg4
  z4 := Tryz.sizeOf4
  v4 := Tryz.zeroValue4
  t9 := Tryz.underlying9
  a9 := Tryz.isAgg9
  z9 := Tryz.sizeOf9
  v9 := Tryz.zeroValue9
  t24 := Tryz.underlying205
  a24 := Tryz.isAgg205
  z24 := Tryz.sizeOf205
  v24 := Tryz.zeroValue205 }
open Go.RowKit in
theorem Tryz.strings_CutPrefix (s p : ByteArray) (w : World) :
    Calls Tryz.prog 243 #[.string s, .string p] w fun e w' => e = .returned (.tuple #[.string ⟨(Lib.trimPrefix s.data.toList p.data.toList).toArray⟩, .bool (Lib.hasPrefix s.data.toList p.data.toList)]) ∧ w' = w := Any.strings_CutPrefix Tryz.lays103 s p w
def Tryz.lays122_ren : Go.Shelf.Ren := ⟨fun | 122 => 62 | 215 => 96 | n => n, fun | 3 => 3 | 4 => 4 | n => n, fun | n => n⟩
theorem Tryz.lays122 : Go.Proofs.Lays.n122 Tryz.prog Tryz.lays122_ren := {
  mixed := by kernel_rfl
  f122 := Tryz.func62.trans (congrArg some (by kernel_rfl))
  f215 := Tryz.func96.trans (congrArg some (by kernel_rfl))
  t3 := Tryz.underlying3
  a3 := Tryz.isAgg3
  z3 := Tryz.sizeOf3
  v3 := Tryz.zeroValue3
  t4 := Tryz.underlying4
  a4 := Tryz.isAgg4
  z4 := Tryz.sizeOf4
  v4 := Tryz.zeroValue4 }
open Go.RowKit in
theorem Tryz.cmp_Compare_int (x y : Int) (w : World) :
    Calls Tryz.prog 62 #[.int .i64 x, .int .i64 y] w fun e w' => e = .returned (.int .i64 (Lib.compareInt x y)) ∧ w' = w := Any.cmp_Compare_int Tryz.lays122 x y w
def Tryz.laysM171_ren : Go.Shelf.Ren := ⟨fun | 171 => 176 | 243 => 205 | 246 => 241 | 283 => 265 | 284 => 266 | 285 => 267 | 286 => 268 | 129 => 94 | 317 => 281 | 318 => 282 | 319 => 283 | 320 => 284 | 337 => 287 | 338 => 288 | n => n, fun | 3 => 3 | 9 => 9 | 2 => 2 | 4 => 4 | 171 => 271 | 0 => 0 | 53 => 127 | 37 => 137 | 5 => 5 | 173 => 273 | 212 => 290 | 51 => 125 | 20 => 20 | 213 => 291 | 46 => 85 | 232 => 295 | 233 => 296 | n => n, fun | 17 => 5 | 18 => 6 | 19 => 7 | n => n⟩
theorem Tryz.laysM171 : Go.Proofs.LaysM.n171 Tryz.prog Tryz.laysM171_ren := {
  mixed := by kernel_rfl
  f129 := Tryz.func94.trans (congrArg some (by kernel_rfl))
  f171 := Tryz.func176.trans (congrArg some (by kernel_rfl))
  f243 := Tryz.func205.trans (congrArg some (by kernel_rfl))
  f246 := Tryz.func241.trans (congrArg some (by kernel_rfl))
  f283 := Tryz.func265.trans (congrArg some (by kernel_rfl))
  f284 := Tryz.func266.trans (congrArg some (by kernel_rfl))
  f285 := Tryz.func267.trans (congrArg some (by kernel_rfl))
  f286 := Tryz.func268.trans (congrArg some (by kernel_rfl))
  f317 := Tryz.func281.trans (congrArg some (by kernel_rfl))
  f318 := Tryz.func282.trans (congrArg some (by kernel_rfl))
  f319 := Tryz.func283.trans (congrArg some (by kernel_rfl))
  f320 := Tryz.func284.trans (congrArg some (by kernel_rfl))
  f337 := Tryz.func287.trans (congrArg some (by kernel_rfl))
  f338 := Tryz.func288.trans (congrArg some (by kernel_rfl))
  t0 := Tryz.underlying0
  a0 := Tryz.isAgg0
  z0 := Tryz.sizeOf0
  v0 := Tryz.zeroValue0
  t2 := Tryz.underlying2
  a2 := Tryz.isAgg2
  z2 := Tryz.sizeOf2
  v2 := Tryz.zeroValue2
  t3 := Tryz.underlying3
  a3 := Tryz.isAgg3
  z3 := Tryz.sizeOf3
  v3 := Tryz.zeroValue3
  t4 := Tryz.underlying4
  a4 := Tryz.isAgg4
  z4 := Tryz.sizeOf4
  v4 := Tryz.zeroValue4
  t5 := Tryz.underlying5
  a5 := Tryz.isAgg5
  z5 := Tryz.sizeOf5
  v5 := Tryz.zeroValue5
  t9 := Tryz.underlying9
  a9 := Tryz.isAgg9
  z9 := Tryz.sizeOf9
  v9 := Tryz.zeroValue9
  t20 := Tryz.underlying20
  a20 := Tryz.isAgg20
  z20 := Tryz.sizeOf20
  v20 := Tryz.zeroValue20
  t37 := Tryz.underlying137
  a37 := Tryz.isAgg137
  z37 := Tryz.sizeOf137
  v37 := Tryz.zeroValue137
  t46 := Tryz.underlying85
  a46 := Tryz.isAgg85
  z46 := Tryz.sizeOf85
  v46 := Tryz.zeroValue85
  t51 := Tryz.underlying125
  a51 := Tryz.isAgg125
  z51 := Tryz.sizeOf125
  v51 := Tryz.zeroValue125
  t53 := Tryz.underlying127
  a53 := Tryz.isAgg127
  z53 := Tryz.sizeOf127
  v53 := Tryz.zeroValue127
  t171 := Tryz.underlying271
  a171 := Tryz.isAgg271
  z171 := Tryz.sizeOf271
  v171 := Tryz.zeroValue271
  t173 := Tryz.underlying273
  a173 := Tryz.isAgg273
  z173 := Tryz.sizeOf273
  v173 := Tryz.zeroValue273
  t212 := Tryz.underlying290
  a212 := Tryz.isAgg290
  z212 := Tryz.sizeOf290
  v212 := Tryz.zeroValue290
  t213 := Tryz.underlying291
  a213 := Tryz.isAgg291
  z213 := Tryz.sizeOf291
  t232 := Tryz.underlying295
  a232 := Tryz.isAgg295
  z232 := Tryz.sizeOf295
  v232 := Tryz.zeroValue295
  t233 := Tryz.underlying296
  a233 := Tryz.isAgg296
  z233 := Tryz.sizeOf296
  v233 := Tryz.zeroValue296
  g17 := by kernel_rfl
  g18 := by kernel_rfl
  g19 := by kernel_rfl
  i0 := by kernel_rfl
  i2 := by kernel_rfl
  i3 := by kernel_rfl
  i4 := by kernel_rfl
  i5 := by kernel_rfl
  i9 := by kernel_rfl
  i20 := by kernel_rfl
  i37 := by kernel_rfl
  i46 := by kernel_rfl
  i51 := by kernel_rfl
  i53 := by kernel_rfl
  i171 := by kernel_rfl
  i173 := by kernel_rfl
  i212 := by kernel_rfl
  i232 := by kernel_rfl
  i233 := by kernel_rfl
  m17 := by kernel_rfl
  m18 := by kernel_rfl
  m19 := by kernel_rfl }
open Go.RowKit Go.Sort Go.Lib in
theorem Tryz.strconv_Itoa (n : Int) (h0 : -9223372036854775808 ≤ n) (h1 : n ≤ 9223372036854775807) (w : World) (htab : Lib.TabIs Tryz.prog w "internal/strconv.uint64pow10" .u64 Lib.pow10Tab) :
    Calls Tryz.prog 176 #[.int .i64 n] w fun e w' => e = .returned (.string ⟨(Lib.itoa n).toArray⟩) ∧ ∃ k os, w' = grow (w.drewN k) os := Any.strconv_Itoa Tryz.laysM171 n h0 h1 w htab
def Tryz.lays171_ren : Go.Shelf.Ren := ⟨fun | 171 => 176 | 243 => 205 | 246 => 241 | 283 => 265 | 284 => 266 | 285 => 267 | 286 => 268 | 129 => 94 | 317 => 281 | 318 => 282 | 319 => 283 | 320 => 284 | 337 => 287 | 338 => 288 | n => n, fun | 3 => 3 | 9 => 9 | 2 => 2 | 4 => 4 | 171 => 271 | 0 => 0 | 53 => 127 | 37 => 137 | 5 => 5 | 173 => 273 | 212 => 290 | 51 => 125 | 20 => 20 | 213 => 291 | 46 => 85 | 232 => 295 | 233 => 296 | n => n, fun | 17 => 5 | 18 => 6 | 19 => 7 | n => n⟩
theorem Tryz.lays171 : Go.Proofs.Lays.n171 Tryz.prog Tryz.lays171_ren := {
  mixed := by kernel_rfl
  f129 := Tryz.func94.trans (congrArg some (by kernel_rfl))
  f171 := Tryz.func176.trans (congrArg some (by kernel_rfl))
  f243 := Tryz.func205.trans (congrArg some (by kernel_rfl))
  f246 := Tryz.func241.trans (congrArg some (by kernel_rfl))
  f283 := Tryz.func265.trans (congrArg some (by kernel_rfl))
  f284 := Tryz.func266.trans (congrArg some (by kernel_rfl))
  f285 := Tryz.func267.trans (congrArg some (by kernel_rfl))
  f286 := Tryz.func268.trans (congrArg some (by kernel_rfl))
  f317 := Tryz.func281.trans (congrArg some (by kernel_rfl))
  f318 := Tryz.func282.trans (congrArg some (by kernel_rfl))
  f319 := Tryz.func283.trans (congrArg some (by kernel_rfl))
  f320 := Tryz.func284.trans (congrArg some (by kernel_rfl))
  f337 := Tryz.func287.trans (congrArg some (by kernel_rfl))
  f338 := Tryz.func288.trans (congrArg some (by kernel_rfl))
  t0 := Tryz.underlying0
  a0 := Tryz.isAgg0
  z0 := Tryz.sizeOf0
  v0 := Tryz.zeroValue0
  t2 := Tryz.underlying2
  a2 := Tryz.isAgg2
  z2 := Tryz.sizeOf2
  v2 := Tryz.zeroValue2
  t3 := Tryz.underlying3
  a3 := Tryz.isAgg3
  z3 := Tryz.sizeOf3
  v3 := Tryz.zeroValue3
  t4 := Tryz.underlying4
  a4 := Tryz.isAgg4
  z4 := Tryz.sizeOf4
  v4 := Tryz.zeroValue4
  t5 := Tryz.underlying5
  a5 := Tryz.isAgg5
  z5 := Tryz.sizeOf5
  v5 := Tryz.zeroValue5
  t9 := Tryz.underlying9
  a9 := Tryz.isAgg9
  z9 := Tryz.sizeOf9
  v9 := Tryz.zeroValue9
  t20 := Tryz.underlying20
  a20 := Tryz.isAgg20
  z20 := Tryz.sizeOf20
  v20 := Tryz.zeroValue20
  t37 := Tryz.underlying137
  a37 := Tryz.isAgg137
  z37 := Tryz.sizeOf137
  v37 := Tryz.zeroValue137
  t46 := Tryz.underlying85
  a46 := Tryz.isAgg85
  z46 := Tryz.sizeOf85
  v46 := Tryz.zeroValue85
  t51 := Tryz.underlying125
  a51 := Tryz.isAgg125
  z51 := Tryz.sizeOf125
  v51 := Tryz.zeroValue125
  t53 := Tryz.underlying127
  a53 := Tryz.isAgg127
  z53 := Tryz.sizeOf127
  v53 := Tryz.zeroValue127
  t171 := Tryz.underlying271
  a171 := Tryz.isAgg271
  z171 := Tryz.sizeOf271
  v171 := Tryz.zeroValue271
  t173 := Tryz.underlying273
  a173 := Tryz.isAgg273
  z173 := Tryz.sizeOf273
  v173 := Tryz.zeroValue273
  t212 := Tryz.underlying290
  a212 := Tryz.isAgg290
  z212 := Tryz.sizeOf290
  v212 := Tryz.zeroValue290
  t213 := Tryz.underlying291
  a213 := Tryz.isAgg291
  z213 := Tryz.sizeOf291
  t232 := Tryz.underlying295
  a232 := Tryz.isAgg295
  z232 := Tryz.sizeOf295
  v232 := Tryz.zeroValue295
  t233 := Tryz.underlying296
  a233 := Tryz.isAgg296
  z233 := Tryz.sizeOf296
  v233 := Tryz.zeroValue296
  g17 := by kernel_rfl
  g18 := by kernel_rfl
  g19 := by kernel_rfl }
open Go.RowKit Go.Sort Go.Lib in
theorem Tryz.strconv_Itoa_small (i : Nat) (hi : i < 100) (w : World) :
    Calls Tryz.prog 176 #[.int .i64 i] w fun e w' => e = .returned (.string ⟨(Lib.decDigits i).toArray⟩) ∧ w' = w := Any.strconv_Itoa_small Tryz.lays171 i hi w
def Tryz.laysC172_ren : Go.Shelf.Ren := ⟨fun | 172 => 175 | 244 => 203 | 245 => 204 | 247 => 236 | 279 => 237 | 280 => 238 | 281 => 239 | 282 => 240 | 287 => 245 | 316 => 263 | 171 => 176 | 205 => 264 | 321 => 270 | 322 => 271 | 243 => 205 | 246 => 241 | 283 => 265 | 284 => 266 | 285 => 267 | 286 => 268 | 129 => 94 | 317 => 281 | 318 => 282 | 319 => 283 | 320 => 284 | 337 => 287 | 338 => 288 | n => n, fun | 9 => 9 | 3 => 3 | 75 => 192 | 76 => 193 | 4 => 4 | 5 => 5 | 167 => 243 | 37 => 137 | 0 => 0 | 85 => 244 | 2 => 2 | 168 => 246 | 53 => 127 | 175 => 227 | 46 => 85 | 210 => 269 | 127 => 255 | 145 => 288 | 143 => 286 | 21 => 21 | 171 => 271 | 173 => 273 | 212 => 290 | 51 => 125 | 20 => 20 | 213 => 291 | 232 => 295 | 233 => 296 | 80 => 236 | n => n, fun | 15 => 3 | 16 => 4 | 17 => 5 | 18 => 6 | 19 => 7 | n => n⟩
theorem Tryz.laysC172 : Go.Proofs.LaysC.n172 Tryz.prog Tryz.laysC172_ren := {
  mixed := by kernel_rfl
  f129 := Tryz.func94.trans (congrArg some (by kernel_rfl))
  f171 := Tryz.func176.trans (congrArg some (by kernel_rfl))
  f172 := Tryz.func175.trans (congrArg some (by kernel_rfl))
  f205 := Tryz.func264.trans (congrArg some (by kernel_rfl))
  f243 := Tryz.func205.trans (congrArg some (by kernel_rfl))
  f244 := Tryz.func203.trans (congrArg some (by kernel_rfl))
  f245 := Tryz.func204.trans (congrArg some (by kernel_rfl))
  f246 := Tryz.func241.trans (congrArg some (by kernel_rfl))
  f247 := Tryz.func236.trans (congrArg some (by kernel_rfl))
  f279 := Tryz.func237.trans (congrArg some (by kernel_rfl))
  f280 := Tryz.func238.trans (congrArg some (by kernel_rfl))
  f281 := Tryz.func239.trans (congrArg some (by kernel_rfl))
  f282 := Tryz.func240.trans (congrArg some (by kernel_rfl))
  f283 := Tryz.func265.trans (congrArg some (by kernel_rfl))
  f284 := Tryz.func266.trans (congrArg some (by kernel_rfl))
  f285 := Tryz.func267.trans (congrArg some (by kernel_rfl))
  f286 := Tryz.func268.trans (congrArg some (by kernel_rfl))
  f287 := Tryz.func245.trans (congrArg some (by kernel_rfl))
  f316 := Tryz.func263.trans (congrArg some (by kernel_rfl))
  f317 := Tryz.func281.trans (congrArg some (by kernel_rfl))
  f318 := Tryz.func282.trans (congrArg some (by kernel_rfl))
  f319 := Tryz.func283.trans (congrArg some (by kernel_rfl))
  f320 := Tryz.func284.trans (congrArg some (by kernel_rfl))
  f321 := Tryz.func270.trans (congrArg some (by kernel_rfl))
  f322 := Tryz.func271.trans (congrArg some (by kernel_rfl))
  f337 := Tryz.func287.trans (congrArg some (by kernel_rfl))
  f338 := Tryz.func288.trans (congrArg some (by kernel_rfl))
  t0 := Tryz.underlying0
  a0 := Tryz.isAgg0
  z0 := Tryz.sizeOf0
  v0 := Tryz.zeroValue0
  t2 := Tryz.underlying2
  a2 := Tryz.isAgg2
  z2 := Tryz.sizeOf2
  v2 := Tryz.zeroValue2
  t3 := Tryz.underlying3
  a3 := Tryz.isAgg3
  z3 := Tryz.sizeOf3
  v3 := Tryz.zeroValue3
  t4 := Tryz.underlying4
  a4 := Tryz.isAgg4
  z4 := Tryz.sizeOf4
  v4 := Tryz.zeroValue4
  t5 := Tryz.underlying5
  a5 := Tryz.isAgg5
  z5 := Tryz.sizeOf5
  v5 := Tryz.zeroValue5
  t9 := Tryz.underlying9
  a9 := Tryz.isAgg9
  z9 := Tryz.sizeOf9
  v9 := Tryz.zeroValue9
  t20 := Tryz.underlying20
  a20 := Tryz.isAgg20
  z20 := Tryz.sizeOf20
  v20 := Tryz.zeroValue20
  t21 := Tryz.underlying21
  a21 := Tryz.isAgg21
  z21 := Tryz.sizeOf21
  v21 := Tryz.zeroValue21
  t37 := Tryz.underlying137
  a37 := Tryz.isAgg137
  z37 := Tryz.sizeOf137
  v37 := Tryz.zeroValue137
  t46 := Tryz.underlying85
  a46 := Tryz.isAgg85
  z46 := Tryz.sizeOf85
  v46 := Tryz.zeroValue85
  t51 := Tryz.underlying125
  a51 := Tryz.isAgg125
  z51 := Tryz.sizeOf125
  v51 := Tryz.zeroValue125
  t53 := Tryz.underlying127
  a53 := Tryz.isAgg127
  z53 := Tryz.sizeOf127
  v53 := Tryz.zeroValue127
  t75 := Tryz.underlying192
  a75 := Tryz.isAgg192
  z75 := Tryz.sizeOf192
  v75 := Tryz.zeroValue192
  t76 := Tryz.underlying193
  a76 := Tryz.isAgg193
  z76 := Tryz.sizeOf193
  v76 := Tryz.zeroValue193
  t85 := Tryz.underlying244
  a85 := Tryz.isAgg244
  z85 := Tryz.sizeOf244
  v85 := Tryz.zeroValue244
  t127 := Tryz.underlying255
  a127 := Tryz.isAgg255
  z127 := Tryz.sizeOf255
  v127 := Tryz.zeroValue255
  t143 := Tryz.underlying286
  a143 := Tryz.isAgg286
  z143 := Tryz.sizeOf286
  v143 := Tryz.zeroValue286
  t145 := Tryz.underlying288
  a145 := Tryz.isAgg288
  z145 := Tryz.sizeOf288
  v145 := Tryz.zeroValue288
  t167 := Tryz.underlying243
  a167 := Tryz.isAgg243
  z167 := Tryz.sizeOf243
  v167 := Tryz.zeroValue243
  t168 := Tryz.underlying246
  a168 := Tryz.isAgg246
  z168 := Tryz.sizeOf246
  v168 := Tryz.zeroValue246
  t171 := Tryz.underlying271
  a171 := Tryz.isAgg271
  z171 := Tryz.sizeOf271
  v171 := Tryz.zeroValue271
  t173 := Tryz.underlying273
  a173 := Tryz.isAgg273
  z173 := Tryz.sizeOf273
  v173 := Tryz.zeroValue273
  t175 := Tryz.underlying227
  a175 := Tryz.isAgg227
  z175 := Tryz.sizeOf227
  v175 := Tryz.zeroValue227
  t210 := Tryz.underlying269
  a210 := Tryz.isAgg269
  z210 := Tryz.sizeOf269
  v210 := Tryz.zeroValue269
  t212 := Tryz.underlying290
  a212 := Tryz.isAgg290
  z212 := Tryz.sizeOf290
  v212 := Tryz.zeroValue290
  t213 := Tryz.underlying291
  a213 := Tryz.isAgg291
  z213 := Tryz.sizeOf291
  t232 := Tryz.underlying295
  a232 := Tryz.isAgg295
  z232 := Tryz.sizeOf295
  v232 := Tryz.zeroValue295
  t233 := Tryz.underlying296
  a233 := Tryz.isAgg296
  z233 := Tryz.sizeOf296
  v233 := Tryz.zeroValue296
  g15 := by kernel_rfl
  g16 := by kernel_rfl
  g17 := by kernel_rfl
  g18 := by kernel_rfl
  g19 := by kernel_rfl
  t80 := Tryz.underlying236
  a80 := Tryz.isAgg236
  z80 := Tryz.sizeOf236
  v80 := Tryz.zeroValue236
  i0 := by kernel_rfl
  i2 := by kernel_rfl
  i3 := by kernel_rfl
  i4 := by kernel_rfl
  i5 := by kernel_rfl
  i9 := by kernel_rfl
  i20 := by kernel_rfl
  i21 := by kernel_rfl
  i37 := by kernel_rfl
  i46 := by kernel_rfl
  i51 := by kernel_rfl
  i53 := by kernel_rfl
  i75 := by kernel_rfl
  i76 := by kernel_rfl
  i80 := by kernel_rfl
  i85 := by kernel_rfl
  i127 := by kernel_rfl
  i143 := by kernel_rfl
  i145 := by kernel_rfl
  i167 := by kernel_rfl
  i168 := by kernel_rfl
  i171 := by kernel_rfl
  i173 := by kernel_rfl
  i175 := by kernel_rfl
  i210 := by kernel_rfl
  i212 := by kernel_rfl
  i232 := by kernel_rfl
  i233 := by kernel_rfl
  m15 := by kernel_rfl
  m16 := by kernel_rfl
  m17 := by kernel_rfl
  m18 := by kernel_rfl
  m19 := by kernel_rfl
  c0 := by kernel_rfl
  c2 := by kernel_rfl
  c3 := by kernel_rfl
  c4 := by kernel_rfl
  c5 := by kernel_rfl
  c9 := by kernel_rfl
  c20 := by kernel_rfl
  c21 := by kernel_rfl
  c37 := by kernel_rfl
  c46 := by kernel_rfl
  c51 := by kernel_rfl
  c53 := by kernel_rfl
  c75 := by kernel_rfl
  c76 := by kernel_rfl
  c80 := by kernel_rfl
  c85 := by kernel_rfl
  c127 := by kernel_rfl
  c143 := by kernel_rfl
  c145 := by kernel_rfl
  c167 := by kernel_rfl
  c168 := by kernel_rfl
  c171 := by kernel_rfl
  c173 := by kernel_rfl
  c175 := by kernel_rfl
  c210 := by kernel_rfl
  c212 := by kernel_rfl
  c213 := by kernel_rfl
  c232 := by kernel_rfl
  c233 := by kernel_rfl }
open Go.RowKit in
theorem Tryz.strconv_Atoi_ok (s : ByteArray) (hmax : s.size ≤ 9223372036854775806) (v : Int) (h : Lib.atoiAll s.data.toList = .ok v) (w : World) :
    Calls Tryz.prog 175 #[.string s] w fun e w' => e = .returned (.tuple #[.int .i64 v, .nilIface]) ∧ (w' = w ∨ ∃ t, w' = Lib.bytesWorld w 5 t) := Any.strconv_Atoi_ok Tryz.laysC172 s hmax v h w
open Go.RowKit in
theorem Tryz.strconv_Atoi_syntax_var (s : ByteArray) (hlim : s.size ≤ 281474976710656) (h : Lib.atoiAll s.data.toList = Lib.atoiAll []) (tp : TypeId) (p : Value) (w : World) (hvar : w.var? Tryz.prog "strconv.ErrSyntax" = some #[.iface tp p]) :
    Calls Tryz.prog 175 #[.string s] w fun e w' => ∃ N, e = .returned (.tuple #[.int .i64 0, .iface 246 (.pointer (some ⟨N, 0, none⟩))]) ∧ w.heap.size ≤ N ∧ w'.heap[N]? = some (.cells #[.string ⟨#[65, 116, 111, 105]⟩, .string s, .iface tp p] 269 (0, 0)) ∧ Below w.heap.size w w' := Any.strconv_Atoi_syntax_var Tryz.laysC172 s hlim h tp p w hvar
open Go.RowKit in
theorem Tryz.strconv_Atoi_range_var (s : ByteArray) (hlim : s.size ≤ 281474976710656) (h : Lib.atoiAll s.data.toList = .range) (tp : TypeId) (p : Value) (w : World) (hvar : w.var? Tryz.prog "strconv.ErrRange" = some #[.iface tp p]) :
    Calls Tryz.prog 175 #[.string s] w fun e w' => ∃ N, e = .returned (.tuple #[.int .i64 (Lib.atoiSat s.data.toList), .iface 246 (.pointer (some ⟨N, 0, none⟩))]) ∧ w.heap.size ≤ N ∧ w'.heap[N]? = some (.cells #[.string ⟨#[65, 116, 111, 105]⟩, .string s, .iface tp p] 269 (0, 0)) ∧ Below w.heap.size w w' := Any.strconv_Atoi_range_var Tryz.laysC172 s hlim h tp p w hvar
def Tryz.lays219_ren : Go.Shelf.Ren := ⟨fun | 219 => 235 | 217 => 261 | 225 => 260 | 224 => 259 | 267 => 262 | 266 => 279 | 314 => 280 | n => n, fun | 9 => 9 | 3 => 3 | 4 => 4 | 5 => 5 | 46 => 85 | 146 => 278 | 51 => 125 | n => n, fun | 1 => 2 | n => n⟩
theorem Tryz.lays219 : Go.Proofs.Lays.n219 Tryz.prog Tryz.lays219_ren := {
  mixed := by kernel_rfl
  f217 := Tryz.func261.trans (congrArg some (by kernel_rfl))
  f219 := Tryz.func235.trans (congrArg some (by kernel_rfl))
  f224 := Tryz.func259.trans (congrArg some (by kernel_rfl))
  f225 := Tryz.func260.trans (congrArg some (by kernel_rfl))
  f266 := Tryz.func279.trans (congrArg some (by kernel_rfl))
  f267 := Tryz.func262.trans (congrArg some (by kernel_rfl))
  f314 := Tryz.func280.trans (congrArg some (by kernel_rfl))
  t3 := Tryz.underlying3
  a3 := Tryz.isAgg3
  z3 := Tryz.sizeOf3
  v3 := Tryz.zeroValue3
  t4 := Tryz.underlying4
  a4 := Tryz.isAgg4
  z4 := Tryz.sizeOf4
  v4 := Tryz.zeroValue4
  t5 := Tryz.underlying5
  a5 := Tryz.isAgg5
  z5 := Tryz.sizeOf5
  v5 := Tryz.zeroValue5
  t9 := Tryz.underlying9
  a9 := Tryz.isAgg9
  z9 := Tryz.sizeOf9
  v9 := Tryz.zeroValue9
  t46 := Tryz.underlying85
  a46 := Tryz.isAgg85
  z46 := Tryz.sizeOf85
  v46 := Tryz.zeroValue85
  t51 := Tryz.underlying125
  a51 := Tryz.isAgg125
  z51 := Tryz.sizeOf125
  v51 := Tryz.zeroValue125
  t146 := Tryz.underlying278
  a146 := Tryz.isAgg278
  z146 := Tryz.sizeOf278
  v146 := Tryz.zeroValue278
  g1 := by kernel_rfl }
open Go.RowKit Go.Lib in
theorem Tryz.stringslite_Index_one (s : ByteArray) (c : UInt8) (w : World) :
    Calls Tryz.prog 235 #[.string s, .string ⟨#[c]⟩] w fun e w' => e = .returned (.int .i64 (Lib.indexByte s.data.toList c)) ∧ w' = w := Any.stringslite_Index_one Tryz.lays219 s c w
def Tryz.lays101_ren : Go.Shelf.Ren := ⟨fun | 101 => 166 | 208 => 197 | 206 => 231 | n => n, fun | 9 => 9 | 4 => 4 | 3 => 3 | n => n, fun | n => n⟩
theorem Tryz.lays101 : Go.Proofs.Lays.n101 Tryz.prog Tryz.lays101_ren := {
  mixed := by kernel_rfl
  f101 := Tryz.func166.trans (congrArg some (by kernel_rfl))
  f206 := Tryz.func231.trans (congrArg some (by kernel_rfl))
  f208 := Tryz.func197.trans (congrArg some (by kernel_rfl))
  t3 := Tryz.underlying3
  a3 := Tryz.isAgg3
  z3 := Tryz.sizeOf3
  v3 := Tryz.zeroValue3
  t4 := Tryz.underlying4
  a4 := Tryz.isAgg4
  z4 := Tryz.sizeOf4
  v4 := Tryz.zeroValue4
  t9 := Tryz.underlying9
  a9 := Tryz.isAgg9
  z9 := Tryz.sizeOf9
  v9 := Tryz.zeroValue9 }
open Go.RowKit Go.Lib in
theorem Tryz.strings_TrimPrefix (s p : ByteArray) (w : World) :
    Calls Tryz.prog 166 #[.string s, .string p] w fun e w' => e = .returned (.string ⟨(Lib.trimPrefix s.data.toList p.data.toList).toArray⟩) ∧ w' = w := Any.strings_TrimPrefix Tryz.lays101 s p w
end Go.Proofs
