/- From the row's premise on the listed variables: the table of powers of ten. -/
import Derived.Test.YtiefdlfninhbgaaGreatDoorRy
import Derived.Test.YtiefdlfninhbgaaGreatDoorTb
import Derived.LaidSub
namespace Go.Proofs.YtiefdlfninhbgaaGreatDoor
open Go.ChangeShapes Go.WideShapes Go.ChangeAt Go.RowKit Go.Deep

theorem pow_of_laid {W : World} (h : laidMet Tryz.prog Rows.bitimeSetsRow.laid W) : Pow W := by
  have h1 := h.filter (fun x => x.1 == "internal/strconv.uint64pow10")
  have e : Rows.bitimeSetsRow.laid.filter (fun x => x.1 == "internal/strconv.uint64pow10") = [("internal/strconv.uint64pow10", Lib.tabData .u64 Lib.pow10Tab)] := by kernel_rfl
  rw [e] at h1
  exact Lib.tabIs_of_head (g := 0) (t := 160) (e := 84) (n := 20) (by kernel_rfl) (by kernel_rfl) Tryz.underlying160 Tryz.underlying84 (by kernel_rfl) (by kernel_rfl) h1
end Go.Proofs.YtiefdlfninhbgaaGreatDoor
