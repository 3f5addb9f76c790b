/-
  DERIVED: THE SHELF's CONTRACTS AT THIS DUMP, IN PLAIN WORDS (tools/lay-plain.mjs out of 'TryzShelfSel.lean', which tools/lay-shelf.mjs wrote): THE SAME DECLARATIONS UNDER THE SAME NAMES: 'import', 'namespace', 'open', 'def', 'theorem' AND NOTHING ELSE: no command of the shelf's: FOR A HAND-IN. Each laying: the table of numbers ('.._ren') and one theorem, a field a fact of the dump's own or the kernel's comparison; each contract: ONE APPLICATION.
-/
import Derived.Shelf.SlGeneric
import Derived.Shelf.Strings.Builder1
import Derived.Shelf.Strings.Builder2
import Derived.Shelf.Strings.Trim
import Derived.Shelf.Small.Utf8
import Derived.Shelf.Small.Bits
import Derived.Shelf.Small.Strs
import Derived.Shelf.Small.Wraps
import Derived.Shelf.Strings.BuilderF
import Derived.Shelf.Strings.BuilderK
import Derived.Shelf.Strings.Builder2Cap
import Derived.Shelf.Strconv.Atoi
import Derived.Shelf.Strconv.Itoa0
import Derived.Shelf.Strconv.Itoa1
import Derived.Shelf.LaysM
import Derived.Shelf.Strconv.Itoa2
import Derived.Shelf.Strconv.Itoa3
import Derived.Shelf.Strconv.AtoiErrFast
import Derived.Shelf.Strconv.ParseIntEmpty
import Derived.Shelf.Strconv.AtoiFail
import Derived.Shelf.Strconv.Clone
import Derived.Shelf.Strconv.SyntaxError
import Derived.Shelf.LaysC
import Derived.Shelf.Strconv.ToError
import Derived.Shelf.Strconv.Lower
import Derived.Shelf.Strconv.ParseUint10
import Derived.Shelf.Strconv.ParseUint10Empty
import Derived.Shelf.Strconv.ParseUint10Any
import Derived.Shelf.Strconv.ParseInt10
import Derived.Shelf.Strconv.AtoiLong
import Derived.Shelf.Strconv.AtoiInnerAll
import Derived.Shelf.Strconv.RangeError
import Derived.Shelf.Strconv.ToErrorRange
import Derived.Shelf.Strconv.AtoiAll
import Derived.Shelf.Strconv.ErrVarAll
import Derived.Shelf.Strconv.ParseUintEmpty
import Derived.Shelf.Strconv.ParseUint10b64
import Derived.Shelf.Strconv.ParseUint10b32
import Derived.Shelf.Strconv.ParseUint10b16
import Derived.Shelf.Strconv.ParseUint10b8
import Derived.Shelf.Strconv.ParseUint10At
import Derived.Shelf.Strconv.ParseInt10At64
import Derived.Shelf.Strconv.ParseInt10At32
import Derived.Shelf.Strconv.ParseInt10At16
import Derived.Shelf.Strconv.ParseInt10At8
import Derived.Shelf.Strconv.ParseInt10All
import Derived.Shelf.Strconv.ParseIntPublic10
import Derived.Ground.MpProg
import Derived.Shelf.Pu.ParseUintPublic10
import Derived.Shelf.Strings.Search1
import Derived.Shelf.Strings.Search2
import Derived.Shelf.Strings.Cut
import Derived.Shelf.Strings.Shaped
import Derived.Shelf.Strings.Prefix
import Derived.Shelf.Strings.Runes
import Derived.Shelf.Strings.AsciiSet
import Derived.Shelf.Bits.Mul64
import Derived.Shelf.Strings.Repeat
import Derived.Shelf.Unicode.DecodeSlow
import Derived.Shelf.Strings.BuilderCap
import Derived.Ground.SlsfProg
import Derived.Shelf.SlSortCmp.Insertion
import Derived.Shelf.SlSortCmp.SiftDown1
import Derived.Shelf.SlSortCmp.HeapSort1
import Derived.Shelf.SlSortCmp.Insertion1
import Derived.Shelf.SlSortCmp.Median1
import Derived.Shelf.SlSortCmp.Pivot1
import Derived.Shelf.SlSortCmp.ReverseRange1
import Derived.Shelf.SlSortCmp.PartialInsertion1
import Derived.Shelf.SlSortCmp.PartitionEqual1
import Derived.Shelf.SlSortCmp.Partition1
import Derived.Shelf.SlSortCmp.Pdq1
import Derived.Shelf.SlSortCmp.Whole1
import Derived.Shelf.SlSortCmp.NoneTotal
import Derived.Shelf.SlSortCmp.NoneTotal
import Derived.Test.YtmamnnaiogidaaaGreatDoorProg
import Derived.Test.YtmamnnaiogidaaaGreatDoorShelf
namespace Go.Proofs
open Go.Shelf
def Tryz.sortI_ren : Go.Shelf.Ren := ⟨fun | 6 => 179 | 15 => 214 | 14 => 213 | 28 => 240 | 29 => 208 | 20 => 232 | 21 => 233 | 22 => 234 | 23 => 235 | 24 => 236 | 25 => 237 | 26 => 238 | 27 => 239 | 46 => 249 | 47 => 250 | 48 => 251 | 49 => 252 | 50 => 253 | 57 => 257 | n => n, fun | 22 => 236 | 24 => 3 | 25 => 239 | 3 => 3 | 39 => 180 | 0 => 0 | 53 => 228 | 55 => 133 | 4 => 4 | 46 => 287 | 45 => 286 | 50 => 51 | 5 => 5 | 9 => 9 | 66 => 302 | 70 => 306 | 76 => 308 | 77 => 309 | n => n, fun | n => n⟩
theorem Tryz.sortI : Go.Proofs.SlLaysF.n6 Tryz.prog Tryz.sortI_ren := {
  mixed := by kernel_rfl
  f6 := ⟨Tryz.f179.name, by decide, Tryz.func179.trans (congrArg some (by kernel_rfl))⟩
  f14 := ⟨Tryz.f213.name, by decide, Tryz.func213.trans (congrArg some (by kernel_rfl))⟩
  f15 := Tryz.func214.trans (congrArg some (by kernel_rfl))
  f20 := ⟨Tryz.f232.name, by decide, Tryz.func232.trans (congrArg some (by kernel_rfl))⟩
  f21 := ⟨Tryz.f233.name, by decide, Tryz.func233.trans (congrArg some (by kernel_rfl))⟩
  f22 := ⟨Tryz.f234.name, by decide, Tryz.func234.trans (congrArg some (by kernel_rfl))⟩
  f23 := ⟨Tryz.f235.name, by decide, Tryz.func235.trans (congrArg some (by kernel_rfl))⟩
  f24 := ⟨Tryz.f236.name, by decide, Tryz.func236.trans (congrArg some (by kernel_rfl))⟩
  f25 := ⟨Tryz.f237.name, by decide, Tryz.func237.trans (congrArg some (by kernel_rfl))⟩
  f26 := ⟨Tryz.f238.name, by decide, Tryz.func238.trans (congrArg some (by kernel_rfl))⟩
  f27 := ⟨Tryz.f239.name, by decide, Tryz.func239.trans (congrArg some (by kernel_rfl))⟩
  f28 := Tryz.func240.trans (congrArg some (by kernel_rfl))
  f29 := Tryz.func208.trans (congrArg some (by kernel_rfl))
  f46 := ⟨Tryz.f249.name, by decide, Tryz.func249.trans (congrArg some (by kernel_rfl))⟩
  f47 := Tryz.func250.trans (congrArg some (by kernel_rfl))
  f48 := Tryz.func251.trans (congrArg some (by kernel_rfl))
  f49 := ⟨Tryz.f252.name, by decide, Tryz.func252.trans (congrArg some (by kernel_rfl))⟩
  f50 := ⟨Tryz.f253.name, by decide, Tryz.func253.trans (congrArg some (by kernel_rfl))⟩
  f57 := ⟨Tryz.f257.name, by decide, Tryz.func257.trans (congrArg some (by kernel_rfl))⟩
  t0 := Tryz.underlying0
  a0 := Tryz.isAgg0
  z0 := Tryz.sizeOf0
  v0 := Tryz.zeroValue0
  t3 := Tryz.underlying3
  a3 := Tryz.isAgg3
  z3 := Tryz.sizeOf3
  v3 := Tryz.zeroValue3
  t4 := Tryz.underlying4
  a4 := Tryz.isAgg4
  z4 := Tryz.sizeOf4
  v4 := Tryz.zeroValue4
  t5 := Tryz.underlying5
  a5 := Tryz.isAgg5
  z5 := Tryz.sizeOf5
  v5 := Tryz.zeroValue5
  t9 := Tryz.underlying9
  a9 := Tryz.isAgg9
  z9 := Tryz.sizeOf9
  v9 := Tryz.zeroValue9
  t22 := Tryz.underlying236
  a22 := Tryz.isAgg236
  z22 := Tryz.sizeOf236
  v22 := Tryz.zeroValue236
  a24 := Tryz.isAgg3
  z24 := Tryz.sizeOf3
  t25 := Tryz.underlying239
  a25 := Tryz.isAgg239
  z25 := Tryz.sizeOf239
  v25 := Tryz.zeroValue239
  t39 := Tryz.underlying180
  a39 := Tryz.isAgg180
  z39 := Tryz.sizeOf180
  v39 := Tryz.zeroValue180
  t45 := Tryz.underlying286
  a45 := Tryz.isAgg286
  z45 := Tryz.sizeOf286
  v45 := Tryz.zeroValue286
  t46 := Tryz.underlying287
  a46 := Tryz.isAgg287
  z46 := Tryz.sizeOf287
  v46 := Tryz.zeroValue287
  t50 := Tryz.underlying51
  a50 := Tryz.isAgg51
  z50 := Tryz.sizeOf51
  v50 := Tryz.zeroValue51
  t53 := Tryz.underlying228
  a53 := Tryz.isAgg228
  z53 := Tryz.sizeOf228
  v53 := Tryz.zeroValue228
  t55 := Tryz.underlying133
  a55 := Tryz.isAgg133
  z55 := Tryz.sizeOf133
  v55 := Tryz.zeroValue133
  t66 := Tryz.underlying302
  a66 := Tryz.isAgg302
  z66 := Tryz.sizeOf302
  v66 := Tryz.zeroValue302
  t70 := Tryz.underlying306
  a70 := Tryz.isAgg306
  z70 := Tryz.sizeOf306
  v70 := Tryz.zeroValue306
  t76 := Tryz.underlying308
  a76 := Tryz.isAgg308
  z76 := Tryz.sizeOf308
  v76 := Tryz.zeroValue308
  t77 := Tryz.underlying309
  a77 := Tryz.isAgg309
  z77 := Tryz.sizeOf309
  v77 := Tryz.zeroValue309 }
end Go.Proofs
