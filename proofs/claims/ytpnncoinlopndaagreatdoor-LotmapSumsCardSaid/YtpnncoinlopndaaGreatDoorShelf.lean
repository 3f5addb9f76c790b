/-
  DERIVED: THE SHELF's CONTRACTS AT THIS DUMP, IN PLAIN WORDS (tools/lay-plain.mjs out of 'TryzShelfSel.lean', which tools/lay-shelf.mjs wrote): THE SAME DECLARATIONS UNDER THE SAME NAMES: 'import', 'namespace', 'open', 'def', 'theorem' AND NOTHING ELSE: no command of the shelf's: FOR A HAND-IN. Each laying: the table of numbers ('.._ren') and one theorem, a field a fact of the dump's own or the kernel's comparison; each contract: ONE APPLICATION.
-/
import Derived.Shelf.Strings.Builder1
import Derived.Shelf.Strings.Builder2
import Derived.Shelf.Strings.Trim
import Derived.Shelf.Small.Utf8
import Derived.Shelf.Small.Bits
import Derived.Shelf.Small.Strs
import Derived.Shelf.Small.Wraps
import Derived.Shelf.Strings.BuilderF
import Derived.Shelf.Strings.BuilderK
import Derived.Shelf.Strings.Builder2Cap
import Derived.Shelf.Strconv.Atoi
import Derived.Shelf.Strconv.Itoa0
import Derived.Shelf.Strconv.Itoa1
import Derived.Shelf.LaysM
import Derived.Shelf.Strconv.Itoa2
import Derived.Shelf.Strconv.Itoa3
import Derived.Shelf.Strconv.AtoiErrFast
import Derived.Shelf.Strconv.ParseIntEmpty
import Derived.Shelf.Strconv.AtoiFail
import Derived.Shelf.Strconv.Clone
import Derived.Shelf.Strconv.SyntaxError
import Derived.Shelf.LaysC
import Derived.Shelf.Strconv.ToError
import Derived.Shelf.Strconv.Lower
import Derived.Shelf.Strconv.ParseUint10
import Derived.Shelf.Strconv.ParseUint10Empty
import Derived.Shelf.Strconv.ParseUint10Any
import Derived.Shelf.Strconv.ParseInt10
import Derived.Shelf.Strconv.AtoiLong
import Derived.Shelf.Strconv.AtoiInnerAll
import Derived.Shelf.Strconv.RangeError
import Derived.Shelf.Strconv.ToErrorRange
import Derived.Shelf.Strconv.AtoiAll
import Derived.Shelf.Strconv.ErrVarAll
import Derived.Shelf.Strconv.ParseUintEmpty
import Derived.Shelf.Strconv.ParseUint10b64
import Derived.Shelf.Strconv.ParseUint10b32
import Derived.Shelf.Strconv.ParseUint10b16
import Derived.Shelf.Strconv.ParseUint10b8
import Derived.Shelf.Strconv.ParseUint10At
import Derived.Shelf.Strconv.ParseInt10At64
import Derived.Shelf.Strconv.ParseInt10At32
import Derived.Shelf.Strconv.ParseInt10At16
import Derived.Shelf.Strconv.ParseInt10At8
import Derived.Shelf.Strconv.ParseInt10All
import Derived.Shelf.Strconv.ParseIntPublic10
import Derived.Ground.MpProg
import Derived.Shelf.Pu.ParseUintPublic10
import Derived.Shelf.Strings.Search1
import Derived.Shelf.Strings.Search2
import Derived.Shelf.Strings.Cut
import Derived.Shelf.Strings.Shaped
import Derived.Shelf.Strings.Prefix
import Derived.Shelf.Strings.Runes
import Derived.Shelf.Strings.AsciiSet
import Derived.Shelf.Bits.Mul64
import Derived.Shelf.Strings.Repeat
import Derived.Shelf.Unicode.DecodeSlow
import Derived.Shelf.Strings.BuilderCap
import Derived.Ground.SlsfProg
import Derived.Shelf.SlSortCmp.Insertion
import Derived.Shelf.SlSortCmp.ReverseRange1
import Derived.Shelf.Strings.SlTrimAscii
import Derived.Test.YtpnncoinlopndaaGreatDoorProg
namespace Go.Proofs
open Go.Shelf
def Tryz.lays161_ren : Go.Shelf.Ren := ⟨fun | 161 => 191 | 231 => 215 | 227 => 217 | 233 => 218 | 235 => 220 | 228 => 248 | 197 => 249 | 151 => 250 | 260 => 268 | 152 => 269 | 137 => 284 | 119 => 285 | 224 => 266 | 225 => 265 | 217 => 264 | 266 => 282 | n => n, fun | 9 => 9 | 4 => 4 | 3 => 3 | 5 => 5 | 117 => 214 | 116 => 213 | 0 => 0 | 124 => 217 | 105 => 247 | 21 => 21 | 119 => 275 | 46 => 199 | 139 => 278 | 138 => 277 | n => n, fun | 3 => 4 | 4 => 5 | n => n⟩
theorem Tryz.lays161 : Go.Proofs.Lays.n161 Tryz.prog Tryz.lays161_ren := {
  mixed := by kernel_rfl
  f119 := Tryz.func285.trans (congrArg some (by kernel_rfl))
  f137 := Tryz.func284.trans (congrArg some (by kernel_rfl))
  f151 := Tryz.func250.trans (congrArg some (by kernel_rfl))
  f152 := Tryz.func269.trans (congrArg some (by kernel_rfl))
  f161 := Tryz.func191.trans (congrArg some (by kernel_rfl))
  f197 := Tryz.func249.trans (congrArg some (by kernel_rfl))
  f217 := Tryz.func264.trans (congrArg some (by kernel_rfl))
  f224 := Tryz.func266.trans (congrArg some (by kernel_rfl))
  f225 := Tryz.func265.trans (congrArg some (by kernel_rfl))
  f227 := Tryz.func217.trans (congrArg some (by kernel_rfl))
  f228 := Tryz.func248.trans (congrArg some (by kernel_rfl))
  f231 := Tryz.func215.trans (congrArg some (by kernel_rfl))
  f233 := Tryz.func218.trans (congrArg some (by kernel_rfl))
  f235 := Tryz.func220.trans (congrArg some (by kernel_rfl))
  f260 := Tryz.func268.trans (congrArg some (by kernel_rfl))
  f266 := Tryz.func282.trans (congrArg some (by kernel_rfl))
  t0 := Tryz.underlying0
  a0 := Tryz.isAgg0
  z0 := Tryz.sizeOf0
  v0 := Tryz.zeroValue0
  t3 := Tryz.underlying3
  a3 := Tryz.isAgg3
  z3 := Tryz.sizeOf3
  v3 := Tryz.zeroValue3
  t4 := Tryz.underlying4
  a4 := Tryz.isAgg4
  z4 := Tryz.sizeOf4
  v4 := Tryz.zeroValue4
  t5 := Tryz.underlying5
  a5 := Tryz.isAgg5
  z5 := Tryz.sizeOf5
  v5 := Tryz.zeroValue5
  t9 := Tryz.underlying9
  a9 := Tryz.isAgg9
  z9 := Tryz.sizeOf9
  v9 := Tryz.zeroValue9
  t21 := Tryz.underlying21
  a21 := Tryz.isAgg21
  z21 := Tryz.sizeOf21
  v21 := Tryz.zeroValue21
  t46 := Tryz.underlying199
  a46 := Tryz.isAgg199
  z46 := Tryz.sizeOf199
  v46 := Tryz.zeroValue199
  t105 := Tryz.underlying247
  a105 := Tryz.isAgg247
  z105 := Tryz.sizeOf247
  v105 := Tryz.zeroValue247
  t116 := Tryz.underlying213
  a116 := Tryz.isAgg213
  z116 := Tryz.sizeOf213
  t117 := Tryz.underlying214
  a117 := Tryz.isAgg214
  z117 := Tryz.sizeOf214
  v117 := Tryz.zeroValue214
  t119 := Tryz.underlying275
  a119 := Tryz.isAgg275
  z119 := Tryz.sizeOf275
  t124 := Tryz.underlying217
  a124 := Tryz.isAgg217
  z124 := Tryz.sizeOf217
  v124 := Tryz.zeroValue217
  t138 := Tryz.underlying277
  a138 := Tryz.isAgg277
  z138 := Tryz.sizeOf277
  v138 := Tryz.zeroValue277
  t139 := Tryz.underlying278
  a139 := Tryz.isAgg278
  z139 := Tryz.sizeOf278
  v139 := Tryz.zeroValue278
  g3 := by kernel_rfl
  g4 := by kernel_rfl }
open Go.RowKit in
theorem Tryz.strings_TrimLeft_one (s : ByteArray) (c : UInt8) (hc : c.toNat < 128) (w : World) :
    Calls Tryz.prog 191 #[.string s, .string ⟨#[c]⟩] w fun e w' => e = .returned (.string ⟨(Lib.trimLeftB s.data.toList c).toArray⟩) ∧ w' = w := Any.strings_TrimLeft_one Tryz.lays161 s c hc w
def Tryz.lays160_ren : Go.Shelf.Ren := ⟨fun | 160 => 190 | 232 => 216 | 231 => 215 | 227 => 217 | 234 => 219 | 233 => 218 | 236 => 221 | 235 => 220 | 228 => 248 | 271 => 251 | 151 => 250 | 197 => 249 | 120 => 270 | 152 => 269 | 260 => 268 | 137 => 284 | 119 => 285 | 224 => 266 | 225 => 265 | 217 => 264 | 266 => 282 | n => n, fun | 9 => 9 | 4 => 4 | 3 => 3 | 5 => 5 | 117 => 214 | 116 => 213 | 0 => 0 | 124 => 217 | 21 => 21 | 105 => 247 | 46 => 199 | 119 => 275 | 139 => 278 | 138 => 277 | n => n, fun | 3 => 4 | 4 => 5 | n => n⟩
theorem Tryz.lays160 : Go.Proofs.Lays.n160 Tryz.prog Tryz.lays160_ren := {
  mixed := by kernel_rfl
  f119 := Tryz.func285.trans (congrArg some (by kernel_rfl))
  f120 := Tryz.func270.trans (congrArg some (by kernel_rfl))
  f137 := Tryz.func284.trans (congrArg some (by kernel_rfl))
  f151 := Tryz.func250.trans (congrArg some (by kernel_rfl))
  f152 := Tryz.func269.trans (congrArg some (by kernel_rfl))
  f160 := Tryz.func190.trans (congrArg some (by kernel_rfl))
  f197 := Tryz.func249.trans (congrArg some (by kernel_rfl))
  f217 := Tryz.func264.trans (congrArg some (by kernel_rfl))
  f224 := Tryz.func266.trans (congrArg some (by kernel_rfl))
  f225 := Tryz.func265.trans (congrArg some (by kernel_rfl))
  f227 := Tryz.func217.trans (congrArg some (by kernel_rfl))
  f228 := Tryz.func248.trans (congrArg some (by kernel_rfl))
  f231 := Tryz.func215.trans (congrArg some (by kernel_rfl))
  f232 := Tryz.func216.trans (congrArg some (by kernel_rfl))
  f233 := Tryz.func218.trans (congrArg some (by kernel_rfl))
  f234 := Tryz.func219.trans (congrArg some (by kernel_rfl))
  f235 := Tryz.func220.trans (congrArg some (by kernel_rfl))
  f236 := Tryz.func221.trans (congrArg some (by kernel_rfl))
  f260 := Tryz.func268.trans (congrArg some (by kernel_rfl))
  f266 := Tryz.func282.trans (congrArg some (by kernel_rfl))
  f271 := Tryz.func251.trans (congrArg some (by kernel_rfl))
  t0 := Tryz.underlying0
  a0 := Tryz.isAgg0
  z0 := Tryz.sizeOf0
  v0 := Tryz.zeroValue0
  t3 := Tryz.underlying3
  a3 := Tryz.isAgg3
  z3 := Tryz.sizeOf3
  v3 := Tryz.zeroValue3
  t4 := Tryz.underlying4
  a4 := Tryz.isAgg4
  z4 := Tryz.sizeOf4
  v4 := Tryz.zeroValue4
  t5 := Tryz.underlying5
  a5 := Tryz.isAgg5
  z5 := Tryz.sizeOf5
  v5 := Tryz.zeroValue5
  t9 := Tryz.underlying9
  a9 := Tryz.isAgg9
  z9 := Tryz.sizeOf9
  v9 := Tryz.zeroValue9
  t21 := Tryz.underlying21
  a21 := Tryz.isAgg21
  z21 := Tryz.sizeOf21
  v21 := Tryz.zeroValue21
  t46 := Tryz.underlying199
  a46 := Tryz.isAgg199
  z46 := Tryz.sizeOf199
  v46 := Tryz.zeroValue199
  t105 := Tryz.underlying247
  a105 := Tryz.isAgg247
  z105 := Tryz.sizeOf247
  v105 := Tryz.zeroValue247
  t116 := Tryz.underlying213
  a116 := Tryz.isAgg213
  z116 := Tryz.sizeOf213
  t117 := Tryz.underlying214
  a117 := Tryz.isAgg214
  z117 := Tryz.sizeOf214
  v117 := Tryz.zeroValue214
  t119 := Tryz.underlying275
  a119 := Tryz.isAgg275
  z119 := Tryz.sizeOf275
  t124 := Tryz.underlying217
  a124 := Tryz.isAgg217
  z124 := Tryz.sizeOf217
  v124 := Tryz.zeroValue217
  t138 := Tryz.underlying277
  a138 := Tryz.isAgg277
  z138 := Tryz.sizeOf277
  v138 := Tryz.zeroValue277
  t139 := Tryz.underlying278
  a139 := Tryz.isAgg278
  z139 := Tryz.sizeOf278
  v139 := Tryz.zeroValue278
  g3 := by kernel_rfl
  g4 := by kernel_rfl }
open Go.RowKit in
theorem Tryz.strings_Trim_one (s : ByteArray) (c : UInt8) (hc : c.toNat < 128) (w : World) (hs : s.size ≤ 9223372036854775807) :
    Calls Tryz.prog 190 #[.string s, .string ⟨#[c]⟩] w fun e w' => e = .returned (.string ⟨(Lib.trimB s.data.toList c).toArray⟩) ∧ (w' = w ∨ w' = w.drew) := Any.strings_Trim_one Tryz.lays160 s c hc w hs
def Tryz.lays103_ren : Go.Shelf.Ren := ⟨fun | 103 => 189 | 210 => 214 | 206 => 236 | n => n, fun | 9 => 9 | 4 => 4 | 24 => 147 | 3 => 3 | n => n, fun | n => n⟩
theorem Tryz.lays103 : Go.Proofs.Lays.n103 Tryz.prog Tryz.lays103_ren := {
  mixed := by kernel_rfl
  f103 := Tryz.func189.trans (congrArg some (by kernel_rfl))
  f206 := Tryz.func236.trans (congrArg some (by kernel_rfl))
  f210 := Tryz.func214.trans (congrArg some (by kernel_rfl))
  t3 := Tryz.underlying3
  a3 := Tryz.isAgg3
  z3 := Tryz.sizeOf3
  v3 := Tryz.zeroValue3
  t4 := Tryz.underlying4
  a4 := Tryz.isAgg4
  z4 := Tryz.sizeOf4
  v4 := Tryz.zeroValue4
  t9 := Tryz.underlying9
  a9 := Tryz.isAgg9
  z9 := Tryz.sizeOf9
  v9 := Tryz.zeroValue9
  t24 := Tryz.underlying147
  a24 := Tryz.isAgg147
  z24 := Tryz.sizeOf147
  v24 := Tryz.zeroValue147 }
open Go.RowKit in
theorem Tryz.strings_CutPrefix (s p : ByteArray) (w : World) :
    Calls Tryz.prog 189 #[.string s, .string p] w fun e w' => e = .returned (.tuple #[.string ⟨(Lib.trimPrefix s.data.toList p.data.toList).toArray⟩, .bool (Lib.hasPrefix s.data.toList p.data.toList)]) ∧ w' = w := Any.strings_CutPrefix Tryz.lays103 s p w
def Tryz.lays122_ren : Go.Shelf.Ren := ⟨fun | 122 => 242 | 215 => 262 | n => n, fun | 3 => 3 | 4 => 4 | n => n, fun | n => n⟩
theorem Tryz.lays122 : Go.Proofs.Lays.n122 Tryz.prog Tryz.lays122_ren := {
  mixed := by kernel_rfl
  f122 := Tryz.func242.trans (congrArg some (by kernel_rfl))
  f215 := Tryz.func262.trans (congrArg some (by kernel_rfl))
  t3 := Tryz.underlying3
  a3 := Tryz.isAgg3
  z3 := Tryz.sizeOf3
  v3 := Tryz.zeroValue3
  t4 := Tryz.underlying4
  a4 := Tryz.isAgg4
  z4 := Tryz.sizeOf4
  v4 := Tryz.zeroValue4 }
open Go.RowKit in
theorem Tryz.cmp_Compare_int (x y : Int) (w : World) :
    Calls Tryz.prog 242 #[.int .i64 x, .int .i64 y] w fun e w' => e = .returned (.int .i64 (Lib.compareInt x y)) ∧ w' = w := Any.cmp_Compare_int Tryz.lays122 x y w
def Tryz.laysM171_ren : Go.Shelf.Ren := ⟨fun | 171 => 172 | 243 => 206 | 246 => 244 | 283 => 230 | 284 => 231 | 285 => 232 | 286 => 233 | 129 => 255 | 317 => 254 | 318 => 256 | 319 => 257 | 320 => 258 | 337 => 271 | 338 => 272 | n => n, fun | 3 => 3 | 9 => 9 | 2 => 2 | 4 => 4 | 171 => 227 | 0 => 0 | 53 => 166 | 37 => 131 | 5 => 5 | 173 => 230 | 212 => 256 | 51 => 232 | 20 => 20 | 213 => 257 | 46 => 199 | 232 => 280 | 233 => 281 | n => n, fun | 17 => 2 | 18 => 6 | 19 => 7 | n => n⟩
theorem Tryz.laysM171 : Go.Proofs.LaysM.n171 Tryz.prog Tryz.laysM171_ren := {
  mixed := by kernel_rfl
  f129 := Tryz.func255.trans (congrArg some (by kernel_rfl))
  f171 := Tryz.func172.trans (congrArg some (by kernel_rfl))
  f243 := Tryz.func206.trans (congrArg some (by kernel_rfl))
  f246 := Tryz.func244.trans (congrArg some (by kernel_rfl))
  f283 := Tryz.func230.trans (congrArg some (by kernel_rfl))
  f284 := Tryz.func231.trans (congrArg some (by kernel_rfl))
  f285 := Tryz.func232.trans (congrArg some (by kernel_rfl))
  f286 := Tryz.func233.trans (congrArg some (by kernel_rfl))
  f317 := Tryz.func254.trans (congrArg some (by kernel_rfl))
  f318 := Tryz.func256.trans (congrArg some (by kernel_rfl))
  f319 := Tryz.func257.trans (congrArg some (by kernel_rfl))
  f320 := Tryz.func258.trans (congrArg some (by kernel_rfl))
  f337 := Tryz.func271.trans (congrArg some (by kernel_rfl))
  f338 := Tryz.func272.trans (congrArg some (by kernel_rfl))
  t0 := Tryz.underlying0
  a0 := Tryz.isAgg0
  z0 := Tryz.sizeOf0
  v0 := Tryz.zeroValue0
  t2 := Tryz.underlying2
  a2 := Tryz.isAgg2
  z2 := Tryz.sizeOf2
  v2 := Tryz.zeroValue2
  t3 := Tryz.underlying3
  a3 := Tryz.isAgg3
  z3 := Tryz.sizeOf3
  v3 := Tryz.zeroValue3
  t4 := Tryz.underlying4
  a4 := Tryz.isAgg4
  z4 := Tryz.sizeOf4
  v4 := Tryz.zeroValue4
  t5 := Tryz.underlying5
  a5 := Tryz.isAgg5
  z5 := Tryz.sizeOf5
  v5 := Tryz.zeroValue5
  t9 := Tryz.underlying9
  a9 := Tryz.isAgg9
  z9 := Tryz.sizeOf9
  v9 := Tryz.zeroValue9
  t20 := Tryz.underlying20
  a20 := Tryz.isAgg20
  z20 := Tryz.sizeOf20
  v20 := Tryz.zeroValue20
  t37 := Tryz.underlying131
  a37 := Tryz.isAgg131
  z37 := Tryz.sizeOf131
  v37 := Tryz.zeroValue131
  t46 := Tryz.underlying199
  a46 := Tryz.isAgg199
  z46 := Tryz.sizeOf199
  v46 := Tryz.zeroValue199
  t51 := Tryz.underlying232
  a51 := Tryz.isAgg232
  z51 := Tryz.sizeOf232
  v51 := Tryz.zeroValue232
  t53 := Tryz.underlying166
  a53 := Tryz.isAgg166
  z53 := Tryz.sizeOf166
  v53 := Tryz.zeroValue166
  t171 := Tryz.underlying227
  a171 := Tryz.isAgg227
  z171 := Tryz.sizeOf227
  v171 := Tryz.zeroValue227
  t173 := Tryz.underlying230
  a173 := Tryz.isAgg230
  z173 := Tryz.sizeOf230
  v173 := Tryz.zeroValue230
  t212 := Tryz.underlying256
  a212 := Tryz.isAgg256
  z212 := Tryz.sizeOf256
  v212 := Tryz.zeroValue256
  t213 := Tryz.underlying257
  a213 := Tryz.isAgg257
  z213 := Tryz.sizeOf257
  t232 := Tryz.underlying280
  a232 := Tryz.isAgg280
  z232 := Tryz.sizeOf280
  v232 := Tryz.zeroValue280
  t233 := Tryz.underlying281
  a233 := Tryz.isAgg281
  z233 := Tryz.sizeOf281
  v233 := Tryz.zeroValue281
  g17 := by kernel_rfl
  g18 := by kernel_rfl
  g19 := by kernel_rfl
  i0 := by kernel_rfl
  i2 := by kernel_rfl
  i3 := by kernel_rfl
  i4 := by kernel_rfl
  i5 := by kernel_rfl
  i9 := by kernel_rfl
  i20 := by kernel_rfl
  i37 := by kernel_rfl
  i46 := by kernel_rfl
  i51 := by kernel_rfl
  i53 := by kernel_rfl
  i171 := by kernel_rfl
  i173 := by kernel_rfl
  i212 := by kernel_rfl
  i232 := by kernel_rfl
  i233 := by kernel_rfl
  m17 := by kernel_rfl
  m18 := by kernel_rfl
  m19 := by kernel_rfl }
open Go.RowKit Go.Sort Go.Lib in
theorem Tryz.strconv_Itoa (n : Int) (h0 : -9223372036854775808 ≤ n) (h1 : n ≤ 9223372036854775807) (w : World) (htab : Lib.TabIs Tryz.prog w "internal/strconv.uint64pow10" .u64 Lib.pow10Tab) :
    Calls Tryz.prog 172 #[.int .i64 n] w fun e w' => e = .returned (.string ⟨(Lib.itoa n).toArray⟩) ∧ ∃ k os, w' = grow (w.drewN k) os := Any.strconv_Itoa Tryz.laysM171 n h0 h1 w htab
def Tryz.lays171_ren : Go.Shelf.Ren := ⟨fun | 171 => 172 | 243 => 206 | 246 => 244 | 283 => 230 | 284 => 231 | 285 => 232 | 286 => 233 | 129 => 255 | 317 => 254 | 318 => 256 | 319 => 257 | 320 => 258 | 337 => 271 | 338 => 272 | n => n, fun | 3 => 3 | 9 => 9 | 2 => 2 | 4 => 4 | 171 => 227 | 0 => 0 | 53 => 166 | 37 => 131 | 5 => 5 | 173 => 230 | 212 => 256 | 51 => 232 | 20 => 20 | 213 => 257 | 46 => 199 | 232 => 280 | 233 => 281 | n => n, fun | 17 => 2 | 18 => 6 | 19 => 7 | n => n⟩
theorem Tryz.lays171 : Go.Proofs.Lays.n171 Tryz.prog Tryz.lays171_ren := {
  mixed := by kernel_rfl
  f129 := Tryz.func255.trans (congrArg some (by kernel_rfl))
  f171 := Tryz.func172.trans (congrArg some (by kernel_rfl))
  f243 := Tryz.func206.trans (congrArg some (by kernel_rfl))
  f246 := Tryz.func244.trans (congrArg some (by kernel_rfl))
  f283 := Tryz.func230.trans (congrArg some (by kernel_rfl))
  f284 := Tryz.func231.trans (congrArg some (by kernel_rfl))
  f285 := Tryz.func232.trans (congrArg some (by kernel_rfl))
  f286 := Tryz.func233.trans (congrArg some (by kernel_rfl))
  f317 := Tryz.func254.trans (congrArg some (by kernel_rfl))
  f318 := Tryz.func256.trans (congrArg some (by kernel_rfl))
  f319 := Tryz.func257.trans (congrArg some (by kernel_rfl))
  f320 := Tryz.func258.trans (congrArg some (by kernel_rfl))
  f337 := Tryz.func271.trans (congrArg some (by kernel_rfl))
  f338 := Tryz.func272.trans (congrArg some (by kernel_rfl))
  t0 := Tryz.underlying0
  a0 := Tryz.isAgg0
  z0 := Tryz.sizeOf0
  v0 := Tryz.zeroValue0
  t2 := Tryz.underlying2
  a2 := Tryz.isAgg2
  z2 := Tryz.sizeOf2
  v2 := Tryz.zeroValue2
  t3 := Tryz.underlying3
  a3 := Tryz.isAgg3
  z3 := Tryz.sizeOf3
  v3 := Tryz.zeroValue3
  t4 := Tryz.underlying4
  a4 := Tryz.isAgg4
  z4 := Tryz.sizeOf4
  v4 := Tryz.zeroValue4
  t5 := Tryz.underlying5
  a5 := Tryz.isAgg5
  z5 := Tryz.sizeOf5
  v5 := Tryz.zeroValue5
  t9 := Tryz.underlying9
  a9 := Tryz.isAgg9
  z9 := Tryz.sizeOf9
  v9 := Tryz.zeroValue9
  t20 := Tryz.underlying20
  a20 := Tryz.isAgg20
  z20 := Tryz.sizeOf20
  v20 := Tryz.zeroValue20
  t37 := Tryz.underlying131
  a37 := Tryz.isAgg131
  z37 := Tryz.sizeOf131
  v37 := Tryz.zeroValue131
  t46 := Tryz.underlying199
  a46 := Tryz.isAgg199
  z46 := Tryz.sizeOf199
  v46 := Tryz.zeroValue199
  t51 := Tryz.underlying232
  a51 := Tryz.isAgg232
  z51 := Tryz.sizeOf232
  v51 := Tryz.zeroValue232
  t53 := Tryz.underlying166
  a53 := Tryz.isAgg166
  z53 := Tryz.sizeOf166
  v53 := Tryz.zeroValue166
  t171 := Tryz.underlying227
  a171 := Tryz.isAgg227
  z171 := Tryz.sizeOf227
  v171 := Tryz.zeroValue227
  t173 := Tryz.underlying230
  a173 := Tryz.isAgg230
  z173 := Tryz.sizeOf230
  v173 := Tryz.zeroValue230
  t212 := Tryz.underlying256
  a212 := Tryz.isAgg256
  z212 := Tryz.sizeOf256
  v212 := Tryz.zeroValue256
  t213 := Tryz.underlying257
  a213 := Tryz.isAgg257
  z213 := Tryz.sizeOf257
  t232 := Tryz.underlying280
  a232 := Tryz.isAgg280
  z232 := Tryz.sizeOf280
  v232 := Tryz.zeroValue280
  t233 := Tryz.underlying281
  a233 := Tryz.isAgg281
  z233 := Tryz.sizeOf281
  v233 := Tryz.zeroValue281
  g17 := by kernel_rfl
  g18 := by kernel_rfl
  g19 := by kernel_rfl }
open Go.RowKit Go.Sort Go.Lib in
theorem Tryz.strconv_Itoa_small (i : Nat) (hi : i < 100) (w : World) :
    Calls Tryz.prog 172 #[.int .i64 i] w fun e w' => e = .returned (.string ⟨(Lib.decDigits i).toArray⟩) ∧ w' = w := Any.strconv_Itoa_small Tryz.lays171 i hi w
def Tryz.laysC172_ren : Go.Shelf.Ren := ⟨fun | 172 => 174 | 244 => 208 | 245 => 193 | 247 => 246 | 279 => 224 | 280 => 225 | 281 => 226 | 282 => 227 | 287 => 192 | 316 => 252 | 171 => 172 | 205 => 253 | 321 => 222 | 322 => 223 | 243 => 206 | 246 => 244 | 283 => 230 | 284 => 231 | 285 => 232 | 286 => 233 | 129 => 255 | 317 => 254 | 318 => 256 | 319 => 257 | 320 => 258 | 337 => 271 | 338 => 272 | n => n, fun | 9 => 9 | 3 => 3 | 75 => 168 | 76 => 179 | 4 => 4 | 5 => 5 | 167 => 218 | 37 => 131 | 0 => 0 | 85 => 243 | 2 => 2 | 168 => 220 | 53 => 166 | 175 => 169 | 46 => 199 | 210 => 252 | 127 => 205 | 145 => 265 | 143 => 263 | 21 => 21 | 171 => 227 | 173 => 230 | 212 => 256 | 51 => 232 | 20 => 20 | 213 => 257 | 232 => 280 | 233 => 281 | 80 => 182 | n => n, fun | 15 => 0 | 16 => 1 | 17 => 2 | 18 => 6 | 19 => 7 | n => n⟩
theorem Tryz.laysC172 : Go.Proofs.LaysC.n172 Tryz.prog Tryz.laysC172_ren := {
  mixed := by kernel_rfl
  f129 := Tryz.func255.trans (congrArg some (by kernel_rfl))
  f171 := Tryz.func172.trans (congrArg some (by kernel_rfl))
  f172 := Tryz.func174.trans (congrArg some (by kernel_rfl))
  f205 := Tryz.func253.trans (congrArg some (by kernel_rfl))
  f243 := Tryz.func206.trans (congrArg some (by kernel_rfl))
  f244 := Tryz.func208.trans (congrArg some (by kernel_rfl))
  f245 := Tryz.func193.trans (congrArg some (by kernel_rfl))
  f246 := Tryz.func244.trans (congrArg some (by kernel_rfl))
  f247 := Tryz.func246.trans (congrArg some (by kernel_rfl))
  f279 := Tryz.func224.trans (congrArg some (by kernel_rfl))
  f280 := Tryz.func225.trans (congrArg some (by kernel_rfl))
  f281 := Tryz.func226.trans (congrArg some (by kernel_rfl))
  f282 := Tryz.func227.trans (congrArg some (by kernel_rfl))
  f283 := Tryz.func230.trans (congrArg some (by kernel_rfl))
  f284 := Tryz.func231.trans (congrArg some (by kernel_rfl))
  f285 := Tryz.func232.trans (congrArg some (by kernel_rfl))
  f286 := Tryz.func233.trans (congrArg some (by kernel_rfl))
  f287 := Tryz.func192.trans (congrArg some (by kernel_rfl))
  f316 := Tryz.func252.trans (congrArg some (by kernel_rfl))
  f317 := Tryz.func254.trans (congrArg some (by kernel_rfl))
  f318 := Tryz.func256.trans (congrArg some (by kernel_rfl))
  f319 := Tryz.func257.trans (congrArg some (by kernel_rfl))
  f320 := Tryz.func258.trans (congrArg some (by kernel_rfl))
  f321 := Tryz.func222.trans (congrArg some (by kernel_rfl))
  f322 := Tryz.func223.trans (congrArg some (by kernel_rfl))
  f337 := Tryz.func271.trans (congrArg some (by kernel_rfl))
  f338 := Tryz.func272.trans (congrArg some (by kernel_rfl))
  t0 := Tryz.underlying0
  a0 := Tryz.isAgg0
  z0 := Tryz.sizeOf0
  v0 := Tryz.zeroValue0
  t2 := Tryz.underlying2
  a2 := Tryz.isAgg2
  z2 := Tryz.sizeOf2
  v2 := Tryz.zeroValue2
  t3 := Tryz.underlying3
  a3 := Tryz.isAgg3
  z3 := Tryz.sizeOf3
  v3 := Tryz.zeroValue3
  t4 := Tryz.underlying4
  a4 := Tryz.isAgg4
  z4 := Tryz.sizeOf4
  v4 := Tryz.zeroValue4
  t5 := Tryz.underlying5
  a5 := Tryz.isAgg5
  z5 := Tryz.sizeOf5
  v5 := Tryz.zeroValue5
  t9 := Tryz.underlying9
  a9 := Tryz.isAgg9
  z9 := Tryz.sizeOf9
  v9 := Tryz.zeroValue9
  t20 := Tryz.underlying20
  a20 := Tryz.isAgg20
  z20 := Tryz.sizeOf20
  v20 := Tryz.zeroValue20
  t21 := Tryz.underlying21
  a21 := Tryz.isAgg21
  z21 := Tryz.sizeOf21
  v21 := Tryz.zeroValue21
  t37 := Tryz.underlying131
  a37 := Tryz.isAgg131
  z37 := Tryz.sizeOf131
  v37 := Tryz.zeroValue131
  t46 := Tryz.underlying199
  a46 := Tryz.isAgg199
  z46 := Tryz.sizeOf199
  v46 := Tryz.zeroValue199
  t51 := Tryz.underlying232
  a51 := Tryz.isAgg232
  z51 := Tryz.sizeOf232
  v51 := Tryz.zeroValue232
  t53 := Tryz.underlying166
  a53 := Tryz.isAgg166
  z53 := Tryz.sizeOf166
  v53 := Tryz.zeroValue166
  t75 := Tryz.underlying168
  a75 := Tryz.isAgg168
  z75 := Tryz.sizeOf168
  v75 := Tryz.zeroValue168
  t76 := Tryz.underlying179
  a76 := Tryz.isAgg179
  z76 := Tryz.sizeOf179
  v76 := Tryz.zeroValue179
  t85 := Tryz.underlying243
  a85 := Tryz.isAgg243
  z85 := Tryz.sizeOf243
  v85 := Tryz.zeroValue243
  t127 := Tryz.underlying205
  a127 := Tryz.isAgg205
  z127 := Tryz.sizeOf205
  v127 := Tryz.zeroValue205
  t143 := Tryz.underlying263
  a143 := Tryz.isAgg263
  z143 := Tryz.sizeOf263
  v143 := Tryz.zeroValue263
  t145 := Tryz.underlying265
  a145 := Tryz.isAgg265
  z145 := Tryz.sizeOf265
  v145 := Tryz.zeroValue265
  t167 := Tryz.underlying218
  a167 := Tryz.isAgg218
  z167 := Tryz.sizeOf218
  v167 := Tryz.zeroValue218
  t168 := Tryz.underlying220
  a168 := Tryz.isAgg220
  z168 := Tryz.sizeOf220
  v168 := Tryz.zeroValue220
  t171 := Tryz.underlying227
  a171 := Tryz.isAgg227
  z171 := Tryz.sizeOf227
  v171 := Tryz.zeroValue227
  t173 := Tryz.underlying230
  a173 := Tryz.isAgg230
  z173 := Tryz.sizeOf230
  v173 := Tryz.zeroValue230
  t175 := Tryz.underlying169
  a175 := Tryz.isAgg169
  z175 := Tryz.sizeOf169
  v175 := Tryz.zeroValue169
  t210 := Tryz.underlying252
  a210 := Tryz.isAgg252
  z210 := Tryz.sizeOf252
  v210 := Tryz.zeroValue252
  t212 := Tryz.underlying256
  a212 := Tryz.isAgg256
  z212 := Tryz.sizeOf256
  v212 := Tryz.zeroValue256
  t213 := Tryz.underlying257
  a213 := Tryz.isAgg257
  z213 := Tryz.sizeOf257
  t232 := Tryz.underlying280
  a232 := Tryz.isAgg280
  z232 := Tryz.sizeOf280
  v232 := Tryz.zeroValue280
  t233 := Tryz.underlying281
  a233 := Tryz.isAgg281
  z233 := Tryz.sizeOf281
  v233 := Tryz.zeroValue281
  g15 := by kernel_rfl
  g16 := by kernel_rfl
  g17 := by kernel_rfl
  g18 := by kernel_rfl
  g19 := by kernel_rfl
  t80 := Tryz.underlying182
  a80 := Tryz.isAgg182
  z80 := Tryz.sizeOf182
  v80 := Tryz.zeroValue182
  i0 := by kernel_rfl
  i2 := by kernel_rfl
  i3 := by kernel_rfl
  i4 := by kernel_rfl
  i5 := by kernel_rfl
  i9 := by kernel_rfl
  i20 := by kernel_rfl
  i21 := by kernel_rfl
  i37 := by kernel_rfl
  i46 := by kernel_rfl
  i51 := by kernel_rfl
  i53 := by kernel_rfl
  i75 := by kernel_rfl
  i76 := by kernel_rfl
  i80 := by kernel_rfl
  i85 := by kernel_rfl
  i127 := by kernel_rfl
  i143 := by kernel_rfl
  i145 := by kernel_rfl
  i167 := by kernel_rfl
  i168 := by kernel_rfl
  i171 := by kernel_rfl
  i173 := by kernel_rfl
  i175 := by kernel_rfl
  i210 := by kernel_rfl
  i212 := by kernel_rfl
  i232 := by kernel_rfl
  i233 := by kernel_rfl
  m15 := by kernel_rfl
  m16 := by kernel_rfl
  m17 := by kernel_rfl
  m18 := by kernel_rfl
  m19 := by kernel_rfl
  c0 := by kernel_rfl
  c2 := by kernel_rfl
  c3 := by kernel_rfl
  c4 := by kernel_rfl
  c5 := by kernel_rfl
  c9 := by kernel_rfl
  c20 := by kernel_rfl
  c21 := by kernel_rfl
  c37 := by kernel_rfl
  c46 := by kernel_rfl
  c51 := by kernel_rfl
  c53 := by kernel_rfl
  c75 := by kernel_rfl
  c76 := by kernel_rfl
  c80 := by kernel_rfl
  c85 := by kernel_rfl
  c127 := by kernel_rfl
  c143 := by kernel_rfl
  c145 := by kernel_rfl
  c167 := by kernel_rfl
  c168 := by kernel_rfl
  c171 := by kernel_rfl
  c173 := by kernel_rfl
  c175 := by kernel_rfl
  c210 := by kernel_rfl
  c212 := by kernel_rfl
  c213 := by kernel_rfl
  c232 := by kernel_rfl
  c233 := by kernel_rfl }
open Go.RowKit in
theorem Tryz.strconv_Atoi_ok (s : ByteArray) (hmax : s.size ≤ 9223372036854775806) (v : Int) (h : Lib.atoiAll s.data.toList = .ok v) (w : World) :
    Calls Tryz.prog 174 #[.string s] w fun e w' => e = .returned (.tuple #[.int .i64 v, .nilIface]) ∧ (w' = w ∨ ∃ t, w' = Lib.bytesWorld w 5 t) := Any.strconv_Atoi_ok Tryz.laysC172 s hmax v h w
open Go.RowKit in
theorem Tryz.strconv_Atoi_syntax_var (s : ByteArray) (hlim : s.size ≤ 281474976710656) (h : Lib.atoiAll s.data.toList = Lib.atoiAll []) (tp : TypeId) (p : Value) (w : World) (hvar : w.var? Tryz.prog "strconv.ErrSyntax" = some #[.iface tp p]) :
    Calls Tryz.prog 174 #[.string s] w fun e w' => ∃ N, e = .returned (.tuple #[.int .i64 0, .iface 220 (.pointer (some ⟨N, 0, none⟩))]) ∧ w.heap.size ≤ N ∧ w'.heap[N]? = some (.cells #[.string ⟨#[65, 116, 111, 105]⟩, .string s, .iface tp p] 252 (0, 0)) ∧ Below w.heap.size w w' := Any.strconv_Atoi_syntax_var Tryz.laysC172 s hlim h tp p w hvar
open Go.RowKit in
theorem Tryz.strconv_Atoi_range_var (s : ByteArray) (hlim : s.size ≤ 281474976710656) (h : Lib.atoiAll s.data.toList = .range) (tp : TypeId) (p : Value) (w : World) (hvar : w.var? Tryz.prog "strconv.ErrRange" = some #[.iface tp p]) :
    Calls Tryz.prog 174 #[.string s] w fun e w' => ∃ N, e = .returned (.tuple #[.int .i64 (Lib.atoiSat s.data.toList), .iface 220 (.pointer (some ⟨N, 0, none⟩))]) ∧ w.heap.size ≤ N ∧ w'.heap[N]? = some (.cells #[.string ⟨#[65, 116, 111, 105]⟩, .string s, .iface tp p] 252 (0, 0)) ∧ Below w.heap.size w w' := Any.strconv_Atoi_range_var Tryz.laysC172 s hlim h tp p w hvar
def Tryz.laysC174_ren : Go.Shelf.Ren := ⟨fun | 174 => 263 | 247 => 246 | 245 => 193 | 287 => 192 | 279 => 224 | 280 => 225 | 281 => 226 | 282 => 227 | 321 => 222 | 322 => 223 | 316 => 252 | 171 => 172 | 205 => 253 | 243 => 206 | 246 => 244 | 283 => 230 | 284 => 231 | 285 => 232 | 286 => 233 | 129 => 255 | 317 => 254 | 318 => 256 | 319 => 257 | 320 => 258 | 337 => 271 | 338 => 272 | n => n, fun | 9 => 9 | 3 => 3 | 2 => 2 | 75 => 168 | 85 => 243 | 4 => 4 | 167 => 218 | 5 => 5 | 53 => 166 | 175 => 169 | 46 => 199 | 168 => 220 | 37 => 131 | 0 => 0 | 210 => 252 | 21 => 21 | 127 => 205 | 145 => 265 | 143 => 263 | 171 => 227 | 173 => 230 | 212 => 256 | 51 => 232 | 20 => 20 | 213 => 257 | 232 => 280 | 233 => 281 | 80 => 182 | n => n, fun | 15 => 0 | 16 => 1 | 17 => 2 | 18 => 6 | 19 => 7 | n => n⟩
theorem Tryz.laysC174 : Go.Proofs.LaysC.n174 Tryz.prog Tryz.laysC174_ren := {
  mixed := by kernel_rfl
  f129 := Tryz.func255.trans (congrArg some (by kernel_rfl))
  f171 := Tryz.func172.trans (congrArg some (by kernel_rfl))
  f174 := Tryz.func263.trans (congrArg some (by kernel_rfl))
  f205 := Tryz.func253.trans (congrArg some (by kernel_rfl))
  f243 := Tryz.func206.trans (congrArg some (by kernel_rfl))
  f245 := Tryz.func193.trans (congrArg some (by kernel_rfl))
  f246 := Tryz.func244.trans (congrArg some (by kernel_rfl))
  f247 := Tryz.func246.trans (congrArg some (by kernel_rfl))
  f279 := Tryz.func224.trans (congrArg some (by kernel_rfl))
  f280 := Tryz.func225.trans (congrArg some (by kernel_rfl))
  f281 := Tryz.func226.trans (congrArg some (by kernel_rfl))
  f282 := Tryz.func227.trans (congrArg some (by kernel_rfl))
  f283 := Tryz.func230.trans (congrArg some (by kernel_rfl))
  f284 := Tryz.func231.trans (congrArg some (by kernel_rfl))
  f285 := Tryz.func232.trans (congrArg some (by kernel_rfl))
  f286 := Tryz.func233.trans (congrArg some (by kernel_rfl))
  f287 := Tryz.func192.trans (congrArg some (by kernel_rfl))
  f316 := Tryz.func252.trans (congrArg some (by kernel_rfl))
  f317 := Tryz.func254.trans (congrArg some (by kernel_rfl))
  f318 := Tryz.func256.trans (congrArg some (by kernel_rfl))
  f319 := Tryz.func257.trans (congrArg some (by kernel_rfl))
  f320 := Tryz.func258.trans (congrArg some (by kernel_rfl))
  f321 := Tryz.func222.trans (congrArg some (by kernel_rfl))
  f322 := Tryz.func223.trans (congrArg some (by kernel_rfl))
  f337 := Tryz.func271.trans (congrArg some (by kernel_rfl))
  f338 := Tryz.func272.trans (congrArg some (by kernel_rfl))
  t0 := Tryz.underlying0
  a0 := Tryz.isAgg0
  z0 := Tryz.sizeOf0
  v0 := Tryz.zeroValue0
  t2 := Tryz.underlying2
  a2 := Tryz.isAgg2
  z2 := Tryz.sizeOf2
  v2 := Tryz.zeroValue2
  t3 := Tryz.underlying3
  a3 := Tryz.isAgg3
  z3 := Tryz.sizeOf3
  v3 := Tryz.zeroValue3
  t4 := Tryz.underlying4
  a4 := Tryz.isAgg4
  z4 := Tryz.sizeOf4
  v4 := Tryz.zeroValue4
  t5 := Tryz.underlying5
  a5 := Tryz.isAgg5
  z5 := Tryz.sizeOf5
  v5 := Tryz.zeroValue5
  t9 := Tryz.underlying9
  a9 := Tryz.isAgg9
  z9 := Tryz.sizeOf9
  v9 := Tryz.zeroValue9
  t20 := Tryz.underlying20
  a20 := Tryz.isAgg20
  z20 := Tryz.sizeOf20
  v20 := Tryz.zeroValue20
  t21 := Tryz.underlying21
  a21 := Tryz.isAgg21
  z21 := Tryz.sizeOf21
  v21 := Tryz.zeroValue21
  t37 := Tryz.underlying131
  a37 := Tryz.isAgg131
  z37 := Tryz.sizeOf131
  v37 := Tryz.zeroValue131
  t46 := Tryz.underlying199
  a46 := Tryz.isAgg199
  z46 := Tryz.sizeOf199
  v46 := Tryz.zeroValue199
  t51 := Tryz.underlying232
  a51 := Tryz.isAgg232
  z51 := Tryz.sizeOf232
  v51 := Tryz.zeroValue232
  t53 := Tryz.underlying166
  a53 := Tryz.isAgg166
  z53 := Tryz.sizeOf166
  v53 := Tryz.zeroValue166
  t75 := Tryz.underlying168
  a75 := Tryz.isAgg168
  z75 := Tryz.sizeOf168
  v75 := Tryz.zeroValue168
  t85 := Tryz.underlying243
  a85 := Tryz.isAgg243
  z85 := Tryz.sizeOf243
  v85 := Tryz.zeroValue243
  t127 := Tryz.underlying205
  a127 := Tryz.isAgg205
  z127 := Tryz.sizeOf205
  v127 := Tryz.zeroValue205
  t143 := Tryz.underlying263
  a143 := Tryz.isAgg263
  z143 := Tryz.sizeOf263
  v143 := Tryz.zeroValue263
  t145 := Tryz.underlying265
  a145 := Tryz.isAgg265
  z145 := Tryz.sizeOf265
  v145 := Tryz.zeroValue265
  t167 := Tryz.underlying218
  a167 := Tryz.isAgg218
  z167 := Tryz.sizeOf218
  v167 := Tryz.zeroValue218
  t168 := Tryz.underlying220
  a168 := Tryz.isAgg220
  z168 := Tryz.sizeOf220
  v168 := Tryz.zeroValue220
  t171 := Tryz.underlying227
  a171 := Tryz.isAgg227
  z171 := Tryz.sizeOf227
  v171 := Tryz.zeroValue227
  t173 := Tryz.underlying230
  a173 := Tryz.isAgg230
  z173 := Tryz.sizeOf230
  v173 := Tryz.zeroValue230
  t175 := Tryz.underlying169
  a175 := Tryz.isAgg169
  z175 := Tryz.sizeOf169
  v175 := Tryz.zeroValue169
  t210 := Tryz.underlying252
  a210 := Tryz.isAgg252
  z210 := Tryz.sizeOf252
  v210 := Tryz.zeroValue252
  t212 := Tryz.underlying256
  a212 := Tryz.isAgg256
  z212 := Tryz.sizeOf256
  v212 := Tryz.zeroValue256
  t213 := Tryz.underlying257
  a213 := Tryz.isAgg257
  z213 := Tryz.sizeOf257
  t232 := Tryz.underlying280
  a232 := Tryz.isAgg280
  z232 := Tryz.sizeOf280
  v232 := Tryz.zeroValue280
  t233 := Tryz.underlying281
  a233 := Tryz.isAgg281
  z233 := Tryz.sizeOf281
  v233 := Tryz.zeroValue281
  g15 := by kernel_rfl
  g16 := by kernel_rfl
  g17 := by kernel_rfl
  g18 := by kernel_rfl
  g19 := by kernel_rfl
  t80 := Tryz.underlying182
  a80 := Tryz.isAgg182
  z80 := Tryz.sizeOf182
  v80 := Tryz.zeroValue182
  i0 := by kernel_rfl
  i2 := by kernel_rfl
  i3 := by kernel_rfl
  i4 := by kernel_rfl
  i5 := by kernel_rfl
  i9 := by kernel_rfl
  i20 := by kernel_rfl
  i21 := by kernel_rfl
  i37 := by kernel_rfl
  i46 := by kernel_rfl
  i51 := by kernel_rfl
  i53 := by kernel_rfl
  i75 := by kernel_rfl
  i80 := by kernel_rfl
  i85 := by kernel_rfl
  i127 := by kernel_rfl
  i143 := by kernel_rfl
  i145 := by kernel_rfl
  i167 := by kernel_rfl
  i168 := by kernel_rfl
  i171 := by kernel_rfl
  i173 := by kernel_rfl
  i175 := by kernel_rfl
  i210 := by kernel_rfl
  i212 := by kernel_rfl
  i232 := by kernel_rfl
  i233 := by kernel_rfl
  m15 := by kernel_rfl
  m16 := by kernel_rfl
  m17 := by kernel_rfl
  m18 := by kernel_rfl
  m19 := by kernel_rfl
  c0 := by kernel_rfl
  c2 := by kernel_rfl
  c3 := by kernel_rfl
  c4 := by kernel_rfl
  c5 := by kernel_rfl
  c9 := by kernel_rfl
  c20 := by kernel_rfl
  c21 := by kernel_rfl
  c37 := by kernel_rfl
  c46 := by kernel_rfl
  c51 := by kernel_rfl
  c53 := by kernel_rfl
  c75 := by kernel_rfl
  c80 := by kernel_rfl
  c85 := by kernel_rfl
  c127 := by kernel_rfl
  c143 := by kernel_rfl
  c145 := by kernel_rfl
  c167 := by kernel_rfl
  c168 := by kernel_rfl
  c171 := by kernel_rfl
  c173 := by kernel_rfl
  c175 := by kernel_rfl
  c210 := by kernel_rfl
  c212 := by kernel_rfl
  c213 := by kernel_rfl
  c232 := by kernel_rfl
  c233 := by kernel_rfl }
open Go.RowKit in
theorem Tryz.strconv_ParseInt_10_at64_ok (s : ByteArray) (hmax : s.size ≤ 9223372036854775806) (v : Int) (h : Lib.parseIntB 64 s.data.toList = .ok v) (w : World) :
    Calls Tryz.prog 263 #[.string s, .int .i64 10, .int .i64 64] w fun e w' => e = .returned (.tuple #[.int .i64 v, .nilIface]) ∧ (w' = w ∨ ∃ t, w' = Lib.bytesWorld w 5 t) := Any.strconv_ParseInt_10_at64_ok Tryz.laysC174 s hmax v h w
def Tryz.lays219_ren : Go.Shelf.Ren := ⟨fun | 219 => 245 | 217 => 264 | 225 => 265 | 224 => 266 | 267 => 267 | 266 => 282 | 314 => 283 | n => n, fun | 9 => 9 | 3 => 3 | 4 => 4 | 5 => 5 | 46 => 199 | 146 => 233 | 51 => 232 | n => n, fun | 1 => 3 | n => n⟩
theorem Tryz.lays219 : Go.Proofs.Lays.n219 Tryz.prog Tryz.lays219_ren := {
  mixed := by kernel_rfl
  f217 := Tryz.func264.trans (congrArg some (by kernel_rfl))
  f219 := Tryz.func245.trans (congrArg some (by kernel_rfl))
  f224 := Tryz.func266.trans (congrArg some (by kernel_rfl))
  f225 := Tryz.func265.trans (congrArg some (by kernel_rfl))
  f266 := Tryz.func282.trans (congrArg some (by kernel_rfl))
  f267 := Tryz.func267.trans (congrArg some (by kernel_rfl))
  f314 := Tryz.func283.trans (congrArg some (by kernel_rfl))
  t3 := Tryz.underlying3
  a3 := Tryz.isAgg3
  z3 := Tryz.sizeOf3
  v3 := Tryz.zeroValue3
  t4 := Tryz.underlying4
  a4 := Tryz.isAgg4
  z4 := Tryz.sizeOf4
  v4 := Tryz.zeroValue4
  t5 := Tryz.underlying5
  a5 := Tryz.isAgg5
  z5 := Tryz.sizeOf5
  v5 := Tryz.zeroValue5
  t9 := Tryz.underlying9
  a9 := Tryz.isAgg9
  z9 := Tryz.sizeOf9
  v9 := Tryz.zeroValue9
  t46 := Tryz.underlying199
  a46 := Tryz.isAgg199
  z46 := Tryz.sizeOf199
  v46 := Tryz.zeroValue199
  t51 := Tryz.underlying232
  a51 := Tryz.isAgg232
  z51 := Tryz.sizeOf232
  v51 := Tryz.zeroValue232
  t146 := Tryz.underlying233
  a146 := Tryz.isAgg233
  z146 := Tryz.sizeOf233
  v146 := Tryz.zeroValue233
  g1 := by kernel_rfl }
open Go.RowKit Go.Lib in
theorem Tryz.stringslite_Index_one (s : ByteArray) (c : UInt8) (w : World) :
    Calls Tryz.prog 245 #[.string s, .string ⟨#[c]⟩] w fun e w' => e = .returned (.int .i64 (Lib.indexByte s.data.toList c)) ∧ w' = w := Any.stringslite_Index_one Tryz.lays219 s c w
end Go.Proofs
