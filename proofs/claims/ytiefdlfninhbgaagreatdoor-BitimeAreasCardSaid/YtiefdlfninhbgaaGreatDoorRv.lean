/- The witness's world: the listed variables as the program's text lays them. -/
import Derived.Test.YtiefdlfninhbgaaGreatDoorRw
namespace Go.Proofs.YtiefdlfninhbgaaGreatDoor
open Go.ChangeShapes Go.WideShapes Go.ChangeAt Go.RowKit Go.Deep

/-- A world for the witness: the variables as the program's text lays them, the pinned table too. -/
noncomputable def laidWorld (os : Os) : World :=
  { World.doorLaid Tryz.prog 400 os with heap := (World.doorLaid Tryz.prog 400 os).heap.modify 4 fun
      | .cells _ t frozen => .cells (Pinned.utf8FirstZ.map fun (n : Nat) => Value.int .u8 (n : Int)).toArray t frozen
      | o => o }
set_option maxRecDepth 100000 in
theorem laid_met (os : Os) (args : Array Value) : laidMet Tryz.prog Rows.bitimePairsRow.laid ((laidWorld os).forCall (fun _ _ => 0) ⟨#[], args, []⟩).memory :=
  laidMet_of_run' 8 (by kernel_rfl) (by kernel_rfl)
end Go.Proofs.YtiefdlfninhbgaaGreatDoor
