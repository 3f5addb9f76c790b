/-
  DERIVED: THE SHELF's CONTRACTS AT THIS DUMP, IN PLAIN WORDS (tools/lay-plain.mjs out of 'TryzShelfSel.lean', which tools/lay-shelf.mjs wrote): THE SAME DECLARATIONS UNDER THE SAME NAMES: 'import', 'namespace', 'open', 'def', 'theorem' AND NOTHING ELSE: no command of the shelf's: FOR A HAND-IN. Each laying: the table of numbers ('.._ren') and one theorem, a field a fact of the dump's own or the kernel's comparison; each contract: ONE APPLICATION.
-/
import Derived.Shelf.Strings.Trim
import Derived.Shelf.Small.Utf8
import Derived.Shelf.Small.Bits
import Derived.Shelf.Small.Strs
import Derived.Shelf.Small.Wraps
import Derived.Shelf.Strconv.Atoi
import Derived.Shelf.Strconv.Itoa0
import Derived.Shelf.Strconv.Itoa1
import Derived.Shelf.LaysM
import Derived.Shelf.Strconv.Itoa2
import Derived.Shelf.Strconv.Itoa3
import Derived.Shelf.Strconv.AtoiErrFast
import Derived.Shelf.Strconv.ParseIntEmpty
import Derived.Shelf.Strconv.AtoiFail
import Derived.Shelf.Strconv.Clone
import Derived.Shelf.Strconv.SyntaxError
import Derived.Shelf.LaysC
import Derived.Shelf.Strconv.ToError
import Derived.Shelf.Strconv.Lower
import Derived.Shelf.Strconv.ParseUint10
import Derived.Shelf.Strconv.ParseUint10Empty
import Derived.Shelf.Strconv.ParseUint10Any
import Derived.Shelf.Strconv.ParseInt10
import Derived.Shelf.Strconv.AtoiLong
import Derived.Shelf.Strconv.AtoiInnerAll
import Derived.Shelf.Strconv.RangeError
import Derived.Shelf.Strconv.ToErrorRange
import Derived.Shelf.Strconv.AtoiAll
import Derived.Shelf.Strconv.ErrVarAll
import Derived.Shelf.Strconv.ParseUintEmpty
import Derived.Shelf.Strconv.ParseUint10b64
import Derived.Shelf.Strconv.ParseUint10b32
import Derived.Shelf.Strconv.ParseUint10b16
import Derived.Shelf.Strconv.ParseUint10b8
import Derived.Shelf.Strconv.ParseUint10At
import Derived.Shelf.Strconv.ParseInt10At64
import Derived.Shelf.Strconv.ParseInt10At32
import Derived.Shelf.Strconv.ParseInt10At16
import Derived.Shelf.Strconv.ParseInt10At8
import Derived.Shelf.Strconv.ParseInt10All
import Derived.Ground.MpProg
import Derived.Shelf.Pu.ParseUintPublic10
import Derived.Shelf.Strings.Search1
import Derived.Shelf.Strings.Search2
import Derived.Shelf.Strings.Cut
import Derived.Shelf.Strings.Shaped
import Derived.Shelf.Strings.Prefix
import Derived.Shelf.Strings.Runes
import Derived.Shelf.Strings.AsciiSet
import Derived.Shelf.Bits.Mul64
import Derived.Shelf.Unicode.DecodeSlow
import Derived.Ground.SlgnProg
import Derived.Shelf.SlicesG.Equal
import Derived.Shelf.SlicesG.CompactS
import Derived.Ground.SlgmProg
import Derived.Shelf.SortM.Plain
import Derived.Shelf.SortM.SortNone
import Derived.Shelf.Strings.SlTrimAscii
import Derived.Test.YtbcnkcldlealjaaGreatDoorProg
namespace Go.Proofs
open Go.Shelf
def Tryz.lays161_ren : Go.Shelf.Ren := ⟨fun | 161 => 251 | 231 => 166 | 227 => 168 | 233 => 169 | 235 => 171 | 228 => 199 | 197 => 200 | 151 => 201 | 260 => 239 | 152 => 240 | 137 => 268 | 119 => 269 | 224 => 270 | 225 => 271 | 217 => 272 | 266 => 291 | n => n, fun | 9 => 9 | 4 => 4 | 3 => 3 | 5 => 5 | 117 => 185 | 116 => 184 | 0 => 0 | 124 => 188 | 105 => 220 | 21 => 21 | 119 => 270 | 46 => 109 | 139 => 273 | 138 => 272 | n => n, fun | 3 => 0 | 4 => 1 | n => n⟩
theorem Tryz.lays161 : Go.Proofs.Lays.n161 Tryz.prog Tryz.lays161_ren := {
  mixed := by kernel_rfl
  f119 := Tryz.func269.trans (congrArg some (by kernel_rfl))
  f137 := Tryz.func268.trans (congrArg some (by kernel_rfl))
  f151 := Tryz.func201.trans (congrArg some (by kernel_rfl))
  f152 := Tryz.func240.trans (congrArg some (by kernel_rfl))
  f161 := Tryz.func251.trans (congrArg some (by kernel_rfl))
  f197 := Tryz.func200.trans (congrArg some (by kernel_rfl))
  f217 := Tryz.func272.trans (congrArg some (by kernel_rfl))
  f224 := Tryz.func270.trans (congrArg some (by kernel_rfl))
  f225 := Tryz.func271.trans (congrArg some (by kernel_rfl))
  f227 := Tryz.func168.trans (congrArg some (by kernel_rfl))
  f228 := Tryz.func199.trans (congrArg some (by kernel_rfl))
  f231 := Tryz.func166.trans (congrArg some (by kernel_rfl))
  f233 := Tryz.func169.trans (congrArg some (by kernel_rfl))
  f235 := Tryz.func171.trans (congrArg some (by kernel_rfl))
  f260 := Tryz.func239.trans (congrArg some (by kernel_rfl))
  f266 := Tryz.func291.trans (congrArg some (by kernel_rfl))
  t0 := Tryz.underlying0
  a0 := Tryz.isAgg0
  z0 := Tryz.sizeOf0
  v0 := Tryz.zeroValue0
  t3 := Tryz.underlying3
  a3 := Tryz.isAgg3
  z3 := Tryz.sizeOf3
  v3 := Tryz.zeroValue3
  t4 := Tryz.underlying4
  a4 := Tryz.isAgg4
  z4 := Tryz.sizeOf4
  v4 := Tryz.zeroValue4
  t5 := Tryz.underlying5
  a5 := Tryz.isAgg5
  z5 := Tryz.sizeOf5
  v5 := Tryz.zeroValue5
  t9 := Tryz.underlying9
  a9 := Tryz.isAgg9
  z9 := Tryz.sizeOf9
  v9 := Tryz.zeroValue9
  t21 := Tryz.underlying21
  a21 := Tryz.isAgg21
  z21 := Tryz.sizeOf21
  v21 := Tryz.zeroValue21
  t46 := Tryz.underlying109
  a46 := Tryz.isAgg109
  z46 := Tryz.sizeOf109
  v46 := Tryz.zeroValue109
  t105 := Tryz.underlying220
  a105 := Tryz.isAgg220
  z105 := Tryz.sizeOf220
  v105 := Tryz.zeroValue220
  t116 := Tryz.underlying184
  a116 := Tryz.isAgg184
  z116 := Tryz.sizeOf184
  t117 := Tryz.underlying185
  a117 := Tryz.isAgg185
  z117 := Tryz.sizeOf185
  v117 := Tryz.zeroValue185
  t119 := Tryz.underlying270
  a119 := Tryz.isAgg270
  z119 := Tryz.sizeOf270
  t124 := Tryz.underlying188
  a124 := Tryz.isAgg188
  z124 := Tryz.sizeOf188
  v124 := Tryz.zeroValue188
  t138 := Tryz.underlying272
  a138 := Tryz.isAgg272
  z138 := Tryz.sizeOf272
  v138 := Tryz.zeroValue272
  t139 := Tryz.underlying273
  a139 := Tryz.isAgg273
  z139 := Tryz.sizeOf273
  v139 := Tryz.zeroValue273
  g3 := by kernel_rfl
  g4 := by kernel_rfl }
open Go.RowKit in
theorem Tryz.strings_TrimLeft_one (s : ByteArray) (c : UInt8) (hc : c.toNat < 128) (w : World) :
    Calls Tryz.prog 251 #[.string s, .string ⟨#[c]⟩] w fun e w' => e = .returned (.string ⟨(Lib.trimLeftB s.data.toList c).toArray⟩) ∧ w' = w := Any.strings_TrimLeft_one Tryz.lays161 s c hc w
def Tryz.lays160_ren : Go.Shelf.Ren := ⟨fun | 160 => 135 | 232 => 167 | 231 => 166 | 227 => 168 | 234 => 170 | 233 => 169 | 236 => 172 | 235 => 171 | 228 => 199 | 271 => 202 | 151 => 201 | 197 => 200 | 120 => 241 | 152 => 240 | 260 => 239 | 137 => 268 | 119 => 269 | 224 => 270 | 225 => 271 | 217 => 272 | 266 => 291 | n => n, fun | 9 => 9 | 4 => 4 | 3 => 3 | 5 => 5 | 117 => 185 | 116 => 184 | 0 => 0 | 124 => 188 | 21 => 21 | 105 => 220 | 46 => 109 | 119 => 270 | 139 => 273 | 138 => 272 | n => n, fun | 3 => 0 | 4 => 1 | n => n⟩
theorem Tryz.lays160 : Go.Proofs.Lays.n160 Tryz.prog Tryz.lays160_ren := {
  mixed := by kernel_rfl
  f119 := Tryz.func269.trans (congrArg some (by kernel_rfl))
  f120 := Tryz.func241.trans (congrArg some (by kernel_rfl))
  f137 := Tryz.func268.trans (congrArg some (by kernel_rfl))
  f151 := Tryz.func201.trans (congrArg some (by kernel_rfl))
  f152 := Tryz.func240.trans (congrArg some (by kernel_rfl))
  f160 := Tryz.func135.trans (congrArg some (by kernel_rfl))
  f197 := Tryz.func200.trans (congrArg some (by kernel_rfl))
  f217 := Tryz.func272.trans (congrArg some (by kernel_rfl))
  f224 := Tryz.func270.trans (congrArg some (by kernel_rfl))
  f225 := Tryz.func271.trans (congrArg some (by kernel_rfl))
  f227 := Tryz.func168.trans (congrArg some (by kernel_rfl))
  f228 := Tryz.func199.trans (congrArg some (by kernel_rfl))
  f231 := Tryz.func166.trans (congrArg some (by kernel_rfl))
  f232 := Tryz.func167.trans (congrArg some (by kernel_rfl))
  f233 := Tryz.func169.trans (congrArg some (by kernel_rfl))
  f234 := Tryz.func170.trans (congrArg some (by kernel_rfl))
  f235 := Tryz.func171.trans (congrArg some (by kernel_rfl))
  f236 := Tryz.func172.trans (congrArg some (by kernel_rfl))
  f260 := Tryz.func239.trans (congrArg some (by kernel_rfl))
  f266 := Tryz.func291.trans (congrArg some (by kernel_rfl))
  f271 := Tryz.func202.trans (congrArg some (by kernel_rfl))
  t0 := Tryz.underlying0
  a0 := Tryz.isAgg0
  z0 := Tryz.sizeOf0
  v0 := Tryz.zeroValue0
  t3 := Tryz.underlying3
  a3 := Tryz.isAgg3
  z3 := Tryz.sizeOf3
  v3 := Tryz.zeroValue3
  t4 := Tryz.underlying4
  a4 := Tryz.isAgg4
  z4 := Tryz.sizeOf4
  v4 := Tryz.zeroValue4
  t5 := Tryz.underlying5
  a5 := Tryz.isAgg5
  z5 := Tryz.sizeOf5
  v5 := Tryz.zeroValue5
  t9 := Tryz.underlying9
  a9 := Tryz.isAgg9
  z9 := Tryz.sizeOf9
  v9 := Tryz.zeroValue9
  t21 := Tryz.underlying21
  a21 := Tryz.isAgg21
  z21 := Tryz.sizeOf21
  v21 := Tryz.zeroValue21
  t46 := Tryz.underlying109
  a46 := Tryz.isAgg109
  z46 := Tryz.sizeOf109
  v46 := Tryz.zeroValue109
  t105 := Tryz.underlying220
  a105 := Tryz.isAgg220
  z105 := Tryz.sizeOf220
  v105 := Tryz.zeroValue220
  t116 := Tryz.underlying184
  a116 := Tryz.isAgg184
  z116 := Tryz.sizeOf184
  t117 := Tryz.underlying185
  a117 := Tryz.isAgg185
  z117 := Tryz.sizeOf185
  v117 := Tryz.zeroValue185
  t119 := Tryz.underlying270
  a119 := Tryz.isAgg270
  z119 := Tryz.sizeOf270
  t124 := Tryz.underlying188
  a124 := Tryz.isAgg188
  z124 := Tryz.sizeOf188
  v124 := Tryz.zeroValue188
  t138 := Tryz.underlying272
  a138 := Tryz.isAgg272
  z138 := Tryz.sizeOf272
  v138 := Tryz.zeroValue272
  t139 := Tryz.underlying273
  a139 := Tryz.isAgg273
  z139 := Tryz.sizeOf273
  v139 := Tryz.zeroValue273
  g3 := by kernel_rfl
  g4 := by kernel_rfl }
open Go.RowKit in
theorem Tryz.strings_Trim_one (s : ByteArray) (c : UInt8) (hc : c.toNat < 128) (w : World) (hs : s.size ≤ 9223372036854775807) :
    Calls Tryz.prog 135 #[.string s, .string ⟨#[c]⟩] w fun e w' => e = .returned (.string ⟨(Lib.trimB s.data.toList c).toArray⟩) ∧ (w' = w ∨ w' = w.drew) := Any.strings_Trim_one Tryz.lays160 s c hc w hs
def Tryz.lays103_ren : Go.Shelf.Ren := ⟨fun | 103 => 250 | 210 => 280 | 206 => 238 | n => n, fun | 9 => 9 | 4 => 4 | 24 => 225 | 3 => 3 | n => n, fun | n => n⟩
theorem Tryz.lays103 : Go.Proofs.Lays.n103 Tryz.prog Tryz.lays103_ren := {
  mixed := by kernel_rfl
  f103 := Tryz.func250.trans (congrArg some (by kernel_rfl))
  f206 := Tryz.func238.trans (congrArg some (by kernel_rfl))
  f210 := Tryz.func280.trans (congrArg some (by kernel_rfl))
  t3 := Tryz.underlying3
  a3 := Tryz.isAgg3
  z3 := Tryz.sizeOf3
  v3 := Tryz.zeroValue3
  t4 := Tryz.underlying4
  a4 := Tryz.isAgg4
  z4 := Tryz.sizeOf4
  v4 := Tryz.zeroValue4
  t9 := Tryz.underlying9
  a9 := Tryz.isAgg9
  z9 := Tryz.sizeOf9
  v9 := Tryz.zeroValue9
  t24 := Tryz.underlying225
  a24 := Tryz.isAgg225
  z24 := Tryz.sizeOf225
  v24 := Tryz.zeroValue225 }
open Go.RowKit in
theorem Tryz.strings_CutPrefix (s p : ByteArray) (w : World) :
    Calls Tryz.prog 250 #[.string s, .string p] w fun e w' => e = .returned (.tuple #[.string ⟨(Lib.trimPrefix s.data.toList p.data.toList).toArray⟩, .bool (Lib.hasPrefix s.data.toList p.data.toList)]) ∧ w' = w := Any.strings_CutPrefix Tryz.lays103 s p w
def Tryz.lays122_ren : Go.Shelf.Ren := ⟨fun | 122 => 84 | 215 => 121 | n => n, fun | 3 => 3 | 4 => 4 | n => n, fun | n => n⟩
theorem Tryz.lays122 : Go.Proofs.Lays.n122 Tryz.prog Tryz.lays122_ren := {
  mixed := by kernel_rfl
  f122 := Tryz.func84.trans (congrArg some (by kernel_rfl))
  f215 := Tryz.func121.trans (congrArg some (by kernel_rfl))
  t3 := Tryz.underlying3
  a3 := Tryz.isAgg3
  z3 := Tryz.sizeOf3
  v3 := Tryz.zeroValue3
  t4 := Tryz.underlying4
  a4 := Tryz.isAgg4
  z4 := Tryz.sizeOf4
  v4 := Tryz.zeroValue4 }
open Go.RowKit in
theorem Tryz.cmp_Compare_int (x y : Int) (w : World) :
    Calls Tryz.prog 84 #[.int .i64 x, .int .i64 y] w fun e w' => e = .returned (.int .i64 (Lib.compareInt x y)) ∧ w' = w := Any.cmp_Compare_int Tryz.lays122 x y w
def Tryz.laysM171_ren : Go.Shelf.Ren := ⟨fun | 171 => 175 | 243 => 206 | 246 => 248 | 283 => 276 | 284 => 277 | 285 => 278 | 286 => 279 | 129 => 119 | 317 => 293 | 318 => 294 | 319 => 295 | 320 => 296 | 337 => 299 | 338 => 300 | n => n, fun | 3 => 3 | 9 => 9 | 2 => 2 | 4 => 4 | 171 => 280 | 0 => 0 | 53 => 147 | 37 => 59 | 5 => 5 | 173 => 282 | 212 => 299 | 51 => 145 | 20 => 20 | 213 => 300 | 46 => 109 | 232 => 304 | 233 => 305 | n => n, fun | 17 => 5 | 18 => 6 | 19 => 7 | n => n⟩
theorem Tryz.laysM171 : Go.Proofs.LaysM.n171 Tryz.prog Tryz.laysM171_ren := {
  mixed := by kernel_rfl
  f129 := Tryz.func119.trans (congrArg some (by kernel_rfl))
  f171 := Tryz.func175.trans (congrArg some (by kernel_rfl))
  f243 := Tryz.func206.trans (congrArg some (by kernel_rfl))
  f246 := Tryz.func248.trans (congrArg some (by kernel_rfl))
  f283 := Tryz.func276.trans (congrArg some (by kernel_rfl))
  f284 := Tryz.func277.trans (congrArg some (by kernel_rfl))
  f285 := Tryz.func278.trans (congrArg some (by kernel_rfl))
  f286 := Tryz.func279.trans (congrArg some (by kernel_rfl))
  f317 := Tryz.func293.trans (congrArg some (by kernel_rfl))
  f318 := Tryz.func294.trans (congrArg some (by kernel_rfl))
  f319 := Tryz.func295.trans (congrArg some (by kernel_rfl))
  f320 := Tryz.func296.trans (congrArg some (by kernel_rfl))
  f337 := Tryz.func299.trans (congrArg some (by kernel_rfl))
  f338 := Tryz.func300.trans (congrArg some (by kernel_rfl))
  t0 := Tryz.underlying0
  a0 := Tryz.isAgg0
  z0 := Tryz.sizeOf0
  v0 := Tryz.zeroValue0
  t2 := Tryz.underlying2
  a2 := Tryz.isAgg2
  z2 := Tryz.sizeOf2
  v2 := Tryz.zeroValue2
  t3 := Tryz.underlying3
  a3 := Tryz.isAgg3
  z3 := Tryz.sizeOf3
  v3 := Tryz.zeroValue3
  t4 := Tryz.underlying4
  a4 := Tryz.isAgg4
  z4 := Tryz.sizeOf4
  v4 := Tryz.zeroValue4
  t5 := Tryz.underlying5
  a5 := Tryz.isAgg5
  z5 := Tryz.sizeOf5
  v5 := Tryz.zeroValue5
  t9 := Tryz.underlying9
  a9 := Tryz.isAgg9
  z9 := Tryz.sizeOf9
  v9 := Tryz.zeroValue9
  t20 := Tryz.underlying20
  a20 := Tryz.isAgg20
  z20 := Tryz.sizeOf20
  v20 := Tryz.zeroValue20
  t37 := Tryz.underlying59
  a37 := Tryz.isAgg59
  z37 := Tryz.sizeOf59
  v37 := Tryz.zeroValue59
  t46 := Tryz.underlying109
  a46 := Tryz.isAgg109
  z46 := Tryz.sizeOf109
  v46 := Tryz.zeroValue109
  t51 := Tryz.underlying145
  a51 := Tryz.isAgg145
  z51 := Tryz.sizeOf145
  v51 := Tryz.zeroValue145
  t53 := Tryz.underlying147
  a53 := Tryz.isAgg147
  z53 := Tryz.sizeOf147
  v53 := Tryz.zeroValue147
  t171 := Tryz.underlying280
  a171 := Tryz.isAgg280
  z171 := Tryz.sizeOf280
  v171 := Tryz.zeroValue280
  t173 := Tryz.underlying282
  a173 := Tryz.isAgg282
  z173 := Tryz.sizeOf282
  v173 := Tryz.zeroValue282
  t212 := Tryz.underlying299
  a212 := Tryz.isAgg299
  z212 := Tryz.sizeOf299
  v212 := Tryz.zeroValue299
  t213 := Tryz.underlying300
  a213 := Tryz.isAgg300
  z213 := Tryz.sizeOf300
  t232 := Tryz.underlying304
  a232 := Tryz.isAgg304
  z232 := Tryz.sizeOf304
  v232 := Tryz.zeroValue304
  t233 := Tryz.underlying305
  a233 := Tryz.isAgg305
  z233 := Tryz.sizeOf305
  v233 := Tryz.zeroValue305
  g17 := by kernel_rfl
  g18 := by kernel_rfl
  g19 := by kernel_rfl
  i0 := by kernel_rfl
  i2 := by kernel_rfl
  i3 := by kernel_rfl
  i4 := by kernel_rfl
  i5 := by kernel_rfl
  i9 := by kernel_rfl
  i20 := by kernel_rfl
  i37 := by kernel_rfl
  i46 := by kernel_rfl
  i51 := by kernel_rfl
  i53 := by kernel_rfl
  i171 := by kernel_rfl
  i173 := by kernel_rfl
  i212 := by kernel_rfl
  i232 := by kernel_rfl
  i233 := by kernel_rfl
  m17 := by kernel_rfl
  m18 := by kernel_rfl
  m19 := by kernel_rfl }
open Go.RowKit Go.Sort Go.Lib in
theorem Tryz.strconv_Itoa (n : Int) (h0 : -9223372036854775808 ≤ n) (h1 : n ≤ 9223372036854775807) (w : World) (htab : Lib.TabIs Tryz.prog w "internal/strconv.uint64pow10" .u64 Lib.pow10Tab) :
    Calls Tryz.prog 175 #[.int .i64 n] w fun e w' => e = .returned (.string ⟨(Lib.itoa n).toArray⟩) ∧ ∃ k os, w' = grow (w.drewN k) os := Any.strconv_Itoa Tryz.laysM171 n h0 h1 w htab
def Tryz.lays171_ren : Go.Shelf.Ren := ⟨fun | 171 => 175 | 243 => 206 | 246 => 248 | 283 => 276 | 284 => 277 | 285 => 278 | 286 => 279 | 129 => 119 | 317 => 293 | 318 => 294 | 319 => 295 | 320 => 296 | 337 => 299 | 338 => 300 | n => n, fun | 3 => 3 | 9 => 9 | 2 => 2 | 4 => 4 | 171 => 280 | 0 => 0 | 53 => 147 | 37 => 59 | 5 => 5 | 173 => 282 | 212 => 299 | 51 => 145 | 20 => 20 | 213 => 300 | 46 => 109 | 232 => 304 | 233 => 305 | n => n, fun | 17 => 5 | 18 => 6 | 19 => 7 | n => n⟩
theorem Tryz.lays171 : Go.Proofs.Lays.n171 Tryz.prog Tryz.lays171_ren := {
  mixed := by kernel_rfl
  f129 := Tryz.func119.trans (congrArg some (by kernel_rfl))
  f171 := Tryz.func175.trans (congrArg some (by kernel_rfl))
  f243 := Tryz.func206.trans (congrArg some (by kernel_rfl))
  f246 := Tryz.func248.trans (congrArg some (by kernel_rfl))
  f283 := Tryz.func276.trans (congrArg some (by kernel_rfl))
  f284 := Tryz.func277.trans (congrArg some (by kernel_rfl))
  f285 := Tryz.func278.trans (congrArg some (by kernel_rfl))
  f286 := Tryz.func279.trans (congrArg some (by kernel_rfl))
  f317 := Tryz.func293.trans (congrArg some (by kernel_rfl))
  f318 := Tryz.func294.trans (congrArg some (by kernel_rfl))
  f319 := Tryz.func295.trans (congrArg some (by kernel_rfl))
  f320 := Tryz.func296.trans (congrArg some (by kernel_rfl))
  f337 := Tryz.func299.trans (congrArg some (by kernel_rfl))
  f338 := Tryz.func300.trans (congrArg some (by kernel_rfl))
  t0 := Tryz.underlying0
  a0 := Tryz.isAgg0
  z0 := Tryz.sizeOf0
  v0 := Tryz.zeroValue0
  t2 := Tryz.underlying2
  a2 := Tryz.isAgg2
  z2 := Tryz.sizeOf2
  v2 := Tryz.zeroValue2
  t3 := Tryz.underlying3
  a3 := Tryz.isAgg3
  z3 := Tryz.sizeOf3
  v3 := Tryz.zeroValue3
  t4 := Tryz.underlying4
  a4 := Tryz.isAgg4
  z4 := Tryz.sizeOf4
  v4 := Tryz.zeroValue4
  t5 := Tryz.underlying5
  a5 := Tryz.isAgg5
  z5 := Tryz.sizeOf5
  v5 := Tryz.zeroValue5
  t9 := Tryz.underlying9
  a9 := Tryz.isAgg9
  z9 := Tryz.sizeOf9
  v9 := Tryz.zeroValue9
  t20 := Tryz.underlying20
  a20 := Tryz.isAgg20
  z20 := Tryz.sizeOf20
  v20 := Tryz.zeroValue20
  t37 := Tryz.underlying59
  a37 := Tryz.isAgg59
  z37 := Tryz.sizeOf59
  v37 := Tryz.zeroValue59
  t46 := Tryz.underlying109
  a46 := Tryz.isAgg109
  z46 := Tryz.sizeOf109
  v46 := Tryz.zeroValue109
  t51 := Tryz.underlying145
  a51 := Tryz.isAgg145
  z51 := Tryz.sizeOf145
  v51 := Tryz.zeroValue145
  t53 := Tryz.underlying147
  a53 := Tryz.isAgg147
  z53 := Tryz.sizeOf147
  v53 := Tryz.zeroValue147
  t171 := Tryz.underlying280
  a171 := Tryz.isAgg280
  z171 := Tryz.sizeOf280
  v171 := Tryz.zeroValue280
  t173 := Tryz.underlying282
  a173 := Tryz.isAgg282
  z173 := Tryz.sizeOf282
  v173 := Tryz.zeroValue282
  t212 := Tryz.underlying299
  a212 := Tryz.isAgg299
  z212 := Tryz.sizeOf299
  v212 := Tryz.zeroValue299
  t213 := Tryz.underlying300
  a213 := Tryz.isAgg300
  z213 := Tryz.sizeOf300
  t232 := Tryz.underlying304
  a232 := Tryz.isAgg304
  z232 := Tryz.sizeOf304
  v232 := Tryz.zeroValue304
  t233 := Tryz.underlying305
  a233 := Tryz.isAgg305
  z233 := Tryz.sizeOf305
  v233 := Tryz.zeroValue305
  g17 := by kernel_rfl
  g18 := by kernel_rfl
  g19 := by kernel_rfl }
open Go.RowKit Go.Sort Go.Lib in
theorem Tryz.strconv_Itoa_small (i : Nat) (hi : i < 100) (w : World) :
    Calls Tryz.prog 175 #[.int .i64 i] w fun e w' => e = .returned (.string ⟨(Lib.decDigits i).toArray⟩) ∧ w' = w := Any.strconv_Itoa_small Tryz.lays171 i hi w
def Tryz.laysC172_ren : Go.Shelf.Ren := ⟨fun | 172 => 174 | 244 => 204 | 245 => 205 | 247 => 243 | 279 => 244 | 280 => 245 | 281 => 246 | 282 => 247 | 287 => 252 | 316 => 274 | 171 => 175 | 205 => 275 | 321 => 281 | 322 => 282 | 243 => 206 | 246 => 248 | 283 => 276 | 284 => 277 | 285 => 278 | 286 => 279 | 129 => 119 | 317 => 293 | 318 => 294 | 319 => 295 | 320 => 296 | 337 => 299 | 338 => 300 | n => n, fun | 9 => 9 | 3 => 3 | 75 => 192 | 76 => 193 | 4 => 4 | 5 => 5 | 167 => 249 | 37 => 59 | 0 => 0 | 85 => 250 | 2 => 2 | 168 => 252 | 53 => 147 | 175 => 227 | 46 => 109 | 210 => 278 | 127 => 261 | 145 => 297 | 143 => 295 | 21 => 21 | 171 => 280 | 173 => 282 | 212 => 299 | 51 => 145 | 20 => 20 | 213 => 300 | 232 => 304 | 233 => 305 | 80 => 236 | n => n, fun | 15 => 3 | 16 => 4 | 17 => 5 | 18 => 6 | 19 => 7 | n => n⟩
theorem Tryz.laysC172 : Go.Proofs.LaysC.n172 Tryz.prog Tryz.laysC172_ren := {
  mixed := by kernel_rfl
  f129 := Tryz.func119.trans (congrArg some (by kernel_rfl))
  f171 := Tryz.func175.trans (congrArg some (by kernel_rfl))
  f172 := Tryz.func174.trans (congrArg some (by kernel_rfl))
  f205 := Tryz.func275.trans (congrArg some (by kernel_rfl))
  f243 := Tryz.func206.trans (congrArg some (by kernel_rfl))
  f244 := Tryz.func204.trans (congrArg some (by kernel_rfl))
  f245 := Tryz.func205.trans (congrArg some (by kernel_rfl))
  f246 := Tryz.func248.trans (congrArg some (by kernel_rfl))
  f247 := Tryz.func243.trans (congrArg some (by kernel_rfl))
  f279 := Tryz.func244.trans (congrArg some (by kernel_rfl))
  f280 := Tryz.func245.trans (congrArg some (by kernel_rfl))
  f281 := Tryz.func246.trans (congrArg some (by kernel_rfl))
  f282 := Tryz.func247.trans (congrArg some (by kernel_rfl))
  f283 := Tryz.func276.trans (congrArg some (by kernel_rfl))
  f284 := Tryz.func277.trans (congrArg some (by kernel_rfl))
  f285 := Tryz.func278.trans (congrArg some (by kernel_rfl))
  f286 := Tryz.func279.trans (congrArg some (by kernel_rfl))
  f287 := Tryz.func252.trans (congrArg some (by kernel_rfl))
  f316 := Tryz.func274.trans (congrArg some (by kernel_rfl))
  f317 := Tryz.func293.trans (congrArg some (by kernel_rfl))
  f318 := Tryz.func294.trans (congrArg some (by kernel_rfl))
  f319 := Tryz.func295.trans (congrArg some (by kernel_rfl))
  f320 := Tryz.func296.trans (congrArg some (by kernel_rfl))
  f321 := Tryz.func281.trans (congrArg some (by kernel_rfl))
  f322 := Tryz.func282.trans (congrArg some (by kernel_rfl))
  f337 := Tryz.func299.trans (congrArg some (by kernel_rfl))
  f338 := Tryz.func300.trans (congrArg some (by kernel_rfl))
  t0 := Tryz.underlying0
  a0 := Tryz.isAgg0
  z0 := Tryz.sizeOf0
  v0 := Tryz.zeroValue0
  t2 := Tryz.underlying2
  a2 := Tryz.isAgg2
  z2 := Tryz.sizeOf2
  v2 := Tryz.zeroValue2
  t3 := Tryz.underlying3
  a3 := Tryz.isAgg3
  z3 := Tryz.sizeOf3
  v3 := Tryz.zeroValue3
  t4 := Tryz.underlying4
  a4 := Tryz.isAgg4
  z4 := Tryz.sizeOf4
  v4 := Tryz.zeroValue4
  t5 := Tryz.underlying5
  a5 := Tryz.isAgg5
  z5 := Tryz.sizeOf5
  v5 := Tryz.zeroValue5
  t9 := Tryz.underlying9
  a9 := Tryz.isAgg9
  z9 := Tryz.sizeOf9
  v9 := Tryz.zeroValue9
  t20 := Tryz.underlying20
  a20 := Tryz.isAgg20
  z20 := Tryz.sizeOf20
  v20 := Tryz.zeroValue20
  t21 := Tryz.underlying21
  a21 := Tryz.isAgg21
  z21 := Tryz.sizeOf21
  v21 := Tryz.zeroValue21
  t37 := Tryz.underlying59
  a37 := Tryz.isAgg59
  z37 := Tryz.sizeOf59
  v37 := Tryz.zeroValue59
  t46 := Tryz.underlying109
  a46 := Tryz.isAgg109
  z46 := Tryz.sizeOf109
  v46 := Tryz.zeroValue109
  t51 := Tryz.underlying145
  a51 := Tryz.isAgg145
  z51 := Tryz.sizeOf145
  v51 := Tryz.zeroValue145
  t53 := Tryz.underlying147
  a53 := Tryz.isAgg147
  z53 := Tryz.sizeOf147
  v53 := Tryz.zeroValue147
  t75 := Tryz.underlying192
  a75 := Tryz.isAgg192
  z75 := Tryz.sizeOf192
  v75 := Tryz.zeroValue192
  t76 := Tryz.underlying193
  a76 := Tryz.isAgg193
  z76 := Tryz.sizeOf193
  v76 := Tryz.zeroValue193
  t85 := Tryz.underlying250
  a85 := Tryz.isAgg250
  z85 := Tryz.sizeOf250
  v85 := Tryz.zeroValue250
  t127 := Tryz.underlying261
  a127 := Tryz.isAgg261
  z127 := Tryz.sizeOf261
  v127 := Tryz.zeroValue261
  t143 := Tryz.underlying295
  a143 := Tryz.isAgg295
  z143 := Tryz.sizeOf295
  v143 := Tryz.zeroValue295
  t145 := Tryz.underlying297
  a145 := Tryz.isAgg297
  z145 := Tryz.sizeOf297
  v145 := Tryz.zeroValue297
  t167 := Tryz.underlying249
  a167 := Tryz.isAgg249
  z167 := Tryz.sizeOf249
  v167 := Tryz.zeroValue249
  t168 := Tryz.underlying252
  a168 := Tryz.isAgg252
  z168 := Tryz.sizeOf252
  v168 := Tryz.zeroValue252
  t171 := Tryz.underlying280
  a171 := Tryz.isAgg280
  z171 := Tryz.sizeOf280
  v171 := Tryz.zeroValue280
  t173 := Tryz.underlying282
  a173 := Tryz.isAgg282
  z173 := Tryz.sizeOf282
  v173 := Tryz.zeroValue282
  t175 := Tryz.underlying227
  a175 := Tryz.isAgg227
  z175 := Tryz.sizeOf227
  v175 := Tryz.zeroValue227
  t210 := Tryz.underlying278
  a210 := Tryz.isAgg278
  z210 := Tryz.sizeOf278
  v210 := Tryz.zeroValue278
  t212 := Tryz.underlying299
  a212 := Tryz.isAgg299
  z212 := Tryz.sizeOf299
  v212 := Tryz.zeroValue299
  t213 := Tryz.underlying300
  a213 := Tryz.isAgg300
  z213 := Tryz.sizeOf300
  t232 := Tryz.underlying304
  a232 := Tryz.isAgg304
  z232 := Tryz.sizeOf304
  v232 := Tryz.zeroValue304
  t233 := Tryz.underlying305
  a233 := Tryz.isAgg305
  z233 := Tryz.sizeOf305
  v233 := Tryz.zeroValue305
  g15 := by kernel_rfl
  g16 := by kernel_rfl
  g17 := by kernel_rfl
  g18 := by kernel_rfl
  g19 := by kernel_rfl
  t80 := Tryz.underlying236
  a80 := Tryz.isAgg236
  z80 := Tryz.sizeOf236
  v80 := Tryz.zeroValue236
  i0 := by kernel_rfl
  i2 := by kernel_rfl
  i3 := by kernel_rfl
  i4 := by kernel_rfl
  i5 := by kernel_rfl
  i9 := by kernel_rfl
  i20 := by kernel_rfl
  i21 := by kernel_rfl
  i37 := by kernel_rfl
  i46 := by kernel_rfl
  i51 := by kernel_rfl
  i53 := by kernel_rfl
  i75 := by kernel_rfl
  i76 := by kernel_rfl
  i80 := by kernel_rfl
  i85 := by kernel_rfl
  i127 := by kernel_rfl
  i143 := by kernel_rfl
  i145 := by kernel_rfl
  i167 := by kernel_rfl
  i168 := by kernel_rfl
  i171 := by kernel_rfl
  i173 := by kernel_rfl
  i175 := by kernel_rfl
  i210 := by kernel_rfl
  i212 := by kernel_rfl
  i232 := by kernel_rfl
  i233 := by kernel_rfl
  m15 := by kernel_rfl
  m16 := by kernel_rfl
  m17 := by kernel_rfl
  m18 := by kernel_rfl
  m19 := by kernel_rfl
  c0 := by kernel_rfl
  c2 := by kernel_rfl
  c3 := by kernel_rfl
  c4 := by kernel_rfl
  c5 := by kernel_rfl
  c9 := by kernel_rfl
  c20 := by kernel_rfl
  c21 := by kernel_rfl
  c37 := by kernel_rfl
  c46 := by kernel_rfl
  c51 := by kernel_rfl
  c53 := by kernel_rfl
  c75 := by kernel_rfl
  c76 := by kernel_rfl
  c80 := by kernel_rfl
  c85 := by kernel_rfl
  c127 := by kernel_rfl
  c143 := by kernel_rfl
  c145 := by kernel_rfl
  c167 := by kernel_rfl
  c168 := by kernel_rfl
  c171 := by kernel_rfl
  c173 := by kernel_rfl
  c175 := by kernel_rfl
  c210 := by kernel_rfl
  c212 := by kernel_rfl
  c213 := by kernel_rfl
  c232 := by kernel_rfl
  c233 := by kernel_rfl }
open Go.RowKit in
theorem Tryz.strconv_Atoi_ok (s : ByteArray) (hmax : s.size ≤ 9223372036854775806) (v : Int) (h : Lib.atoiAll s.data.toList = .ok v) (w : World) :
    Calls Tryz.prog 174 #[.string s] w fun e w' => e = .returned (.tuple #[.int .i64 v, .nilIface]) ∧ (w' = w ∨ ∃ t, w' = Lib.bytesWorld w 5 t) := Any.strconv_Atoi_ok Tryz.laysC172 s hmax v h w
open Go.RowKit in
theorem Tryz.strconv_Atoi_syntax_var (s : ByteArray) (hlim : s.size ≤ 281474976710656) (h : Lib.atoiAll s.data.toList = Lib.atoiAll []) (tp : TypeId) (p : Value) (w : World) (hvar : w.var? Tryz.prog "strconv.ErrSyntax" = some #[.iface tp p]) :
    Calls Tryz.prog 174 #[.string s] w fun e w' => ∃ N, e = .returned (.tuple #[.int .i64 0, .iface 252 (.pointer (some ⟨N, 0, none⟩))]) ∧ w.heap.size ≤ N ∧ w'.heap[N]? = some (.cells #[.string ⟨#[65, 116, 111, 105]⟩, .string s, .iface tp p] 278 (0, 0)) ∧ Below w.heap.size w w' := Any.strconv_Atoi_syntax_var Tryz.laysC172 s hlim h tp p w hvar
open Go.RowKit in
theorem Tryz.strconv_Atoi_range_var (s : ByteArray) (hlim : s.size ≤ 281474976710656) (h : Lib.atoiAll s.data.toList = .range) (tp : TypeId) (p : Value) (w : World) (hvar : w.var? Tryz.prog "strconv.ErrRange" = some #[.iface tp p]) :
    Calls Tryz.prog 174 #[.string s] w fun e w' => ∃ N, e = .returned (.tuple #[.int .i64 (Lib.atoiSat s.data.toList), .iface 252 (.pointer (some ⟨N, 0, none⟩))]) ∧ w.heap.size ≤ N ∧ w'.heap[N]? = some (.cells #[.string ⟨#[65, 116, 111, 105]⟩, .string s, .iface tp p] 278 (0, 0)) ∧ Below w.heap.size w w' := Any.strconv_Atoi_range_var Tryz.laysC172 s hlim h tp p w hvar
def Tryz.lays219_ren : Go.Shelf.Ren := ⟨fun | 219 => 242 | 217 => 272 | 225 => 271 | 224 => 270 | 267 => 273 | 266 => 291 | 314 => 292 | n => n, fun | 9 => 9 | 3 => 3 | 4 => 4 | 5 => 5 | 46 => 109 | 146 => 287 | 51 => 145 | n => n, fun | 1 => 2 | n => n⟩
theorem Tryz.lays219 : Go.Proofs.Lays.n219 Tryz.prog Tryz.lays219_ren := {
  mixed := by kernel_rfl
  f217 := Tryz.func272.trans (congrArg some (by kernel_rfl))
  f219 := Tryz.func242.trans (congrArg some (by kernel_rfl))
  f224 := Tryz.func270.trans (congrArg some (by kernel_rfl))
  f225 := Tryz.func271.trans (congrArg some (by kernel_rfl))
  f266 := Tryz.func291.trans (congrArg some (by kernel_rfl))
  f267 := Tryz.func273.trans (congrArg some (by kernel_rfl))
  f314 := Tryz.func292.trans (congrArg some (by kernel_rfl))
  t3 := Tryz.underlying3
  a3 := Tryz.isAgg3
  z3 := Tryz.sizeOf3
  v3 := Tryz.zeroValue3
  t4 := Tryz.underlying4
  a4 := Tryz.isAgg4
  z4 := Tryz.sizeOf4
  v4 := Tryz.zeroValue4
  t5 := Tryz.underlying5
  a5 := Tryz.isAgg5
  z5 := Tryz.sizeOf5
  v5 := Tryz.zeroValue5
  t9 := Tryz.underlying9
  a9 := Tryz.isAgg9
  z9 := Tryz.sizeOf9
  v9 := Tryz.zeroValue9
  t46 := Tryz.underlying109
  a46 := Tryz.isAgg109
  z46 := Tryz.sizeOf109
  v46 := Tryz.zeroValue109
  t51 := Tryz.underlying145
  a51 := Tryz.isAgg145
  z51 := Tryz.sizeOf145
  v51 := Tryz.zeroValue145
  t146 := Tryz.underlying287
  a146 := Tryz.isAgg287
  z146 := Tryz.sizeOf287
  v146 := Tryz.zeroValue287
  g1 := by kernel_rfl }
open Go.RowKit Go.Lib in
theorem Tryz.stringslite_Index_one (s : ByteArray) (c : UInt8) (w : World) :
    Calls Tryz.prog 242 #[.string s, .string ⟨#[c]⟩] w fun e w' => e = .returned (.int .i64 (Lib.indexByte s.data.toList c)) ∧ w' = w := Any.stringslite_Index_one Tryz.lays219 s c w
def Tryz.lays101_ren : Go.Shelf.Ren := ⟨fun | 101 => 165 | 208 => 198 | 206 => 238 | n => n, fun | 9 => 9 | 4 => 4 | 3 => 3 | n => n, fun | n => n⟩
theorem Tryz.lays101 : Go.Proofs.Lays.n101 Tryz.prog Tryz.lays101_ren := {
  mixed := by kernel_rfl
  f101 := Tryz.func165.trans (congrArg some (by kernel_rfl))
  f206 := Tryz.func238.trans (congrArg some (by kernel_rfl))
  f208 := Tryz.func198.trans (congrArg some (by kernel_rfl))
  t3 := Tryz.underlying3
  a3 := Tryz.isAgg3
  z3 := Tryz.sizeOf3
  v3 := Tryz.zeroValue3
  t4 := Tryz.underlying4
  a4 := Tryz.isAgg4
  z4 := Tryz.sizeOf4
  v4 := Tryz.zeroValue4
  t9 := Tryz.underlying9
  a9 := Tryz.isAgg9
  z9 := Tryz.sizeOf9
  v9 := Tryz.zeroValue9 }
open Go.RowKit Go.Lib in
theorem Tryz.strings_TrimPrefix (s p : ByteArray) (w : World) :
    Calls Tryz.prog 165 #[.string s, .string p] w fun e w' => e = .returned (.string ⟨(Lib.trimPrefix s.data.toList p.data.toList).toArray⟩) ∧ w' = w := Any.strings_TrimPrefix Tryz.lays101 s p w
end Go.Proofs
