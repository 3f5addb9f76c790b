/- Merged texts: Ry, Rz, Ra2. -/
import Derived.Test.YtiefdlfninhbgaaGreatDoorRv
import Derived.Test.YtiefdlfninhbgaaGreatDoorTb
import Derived.LaidSub
/- A slice of regions that came in: its capacity. -/
namespace Go.Proofs.YtiefdlfninhbgaaGreatDoor
open Go.ChangeShapes Go.WideShapes Go.ChangeAt Go.RowKit Go.Deep

theorem open_cap {H : Type} {enc : TypeId × Value → H} {W : World} {A : Option Addr} {n c : Nat} {d : DataW H} {p : List MemPlace} (h : DataW.Trod enc Tryz.prog W 0 (fun _ => true) true 22 (.slice A n c) d p) : n ≤ c := by
  obtain ⟨fuel, hf⟩ := h
  rcases open_slice Tryz.underlying22 hf with ⟨hcs, hx⟩ | ⟨a, len', cap', m, n', D, Pl, hcs, _, hl, hm, hmm, hx, hi⟩
  · simp [Value.cells] at hcs
    obtain ⟨rfl, rfl, rfl⟩ := hcs
    exact Nat.le_refl _
  · simp [Value.cells] at hcs
    obtain ⟨rfl, rfl, rfl⟩ := hcs
    exact hl
end Go.Proofs.YtiefdlfninhbgaaGreatDoor
/- From the row's premise on the listed variables: the table of powers of ten. -/
namespace Go.Proofs.YtiefdlfninhbgaaGreatDoor
open Go.ChangeShapes Go.WideShapes Go.ChangeAt Go.RowKit Go.Deep

theorem pow_of_laid {W : World} (h : laidMet Tryz.prog Rows.bitimeSetsRow.laid W) : Pow W := by
  have h1 := h.filter (fun x => x.1 == "internal/strconv.uint64pow10")
  have e : Rows.bitimeSetsRow.laid.filter (fun x => x.1 == "internal/strconv.uint64pow10") = [("internal/strconv.uint64pow10", Lib.tabData .u64 Lib.pow10Tab)] := by kernel_rfl
  rw [e] at h1
  exact Lib.tabIs_of_head (g := 0) (t := 160) (e := 84) (n := 20) (by kernel_rfl) (by kernel_rfl) Tryz.underlying160 Tryz.underlying84 (by kernel_rfl) (by kernel_rfl) h1
end Go.Proofs.YtiefdlfninhbgaaGreatDoor
/- The row of BitimeAreas lists two variables more: the witness's world, and the table of powers of ten. -/
namespace Go.Proofs.YtiefdlfninhbgaaGreatDoor
open Go.ChangeShapes Go.WideShapes Go.ChangeAt Go.RowKit Go.Deep

theorem pow_of_laidA {W : World} (h : laidMetH Tryz.prog Rows.bitimeAreasRow.laid W) : Pow W := by
  have h0 : laidMet Tryz.prog Rows.bitimeAreasRow.laid W := h
  have h1 := h0.filter (fun x => x.1 == "internal/strconv.uint64pow10")
  have e : Rows.bitimeAreasRow.laid.filter (fun x => x.1 == "internal/strconv.uint64pow10") = [("internal/strconv.uint64pow10", Lib.tabData .u64 Lib.pow10Tab)] := by kernel_rfl
  rw [e] at h1
  exact Lib.tabIs_of_head (g := 0) (t := 160) (e := 84) (n := 20) (by kernel_rfl) (by kernel_rfl) Tryz.underlying160 Tryz.underlying84 (by kernel_rfl) (by kernel_rfl) h1
set_option maxRecDepth 100000 in
theorem laid_metA (os : Os) (args : Array Value) : laidMet Tryz.prog Rows.bitimeAreasRow.laid ((laidWorld os).forCall (fun _ _ => 0) ⟨#[], args, []⟩).memory :=
  laidMet_of_run' 8 (by kernel_rfl) (by kernel_rfl)
end Go.Proofs.YtiefdlfninhbgaaGreatDoor
