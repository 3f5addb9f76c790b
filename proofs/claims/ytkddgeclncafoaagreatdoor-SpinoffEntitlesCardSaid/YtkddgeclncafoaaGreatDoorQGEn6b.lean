/- The row of SpinoffEntitles, said. -/
import Derived.Test.YtkddgeclncafoaaGreatDoorQGEn6
import Derived.Test.YtkddgeclncafoaaGreatDoorCards
import Derived.Test.YtkddgeclncafoaaGreatDoorTie
import Derived.Lib.SmallJoins
import Derived.LaidSub
import Derived.ProofKit
import Derived.OpenShut
import Derived.Carry
import Derived.LaidMore
import Derived.Deep.Slices
import Derived.Deep.DeepHandedRow
set_option maxRecDepth 100000
set_option maxHeartbeats 8000000
namespace Go.Proofs.YtkddgeclncafoaaGreatDoor
open Go.Lib renaming hid→jq
namespace lawSpinoffEntitles
open Go.ChangeShapes Go.WideShapes Go.ChangeAt Go.RowKit Go.Deep
theorem Zpc(hlaw:Zmx):Rows.SpinoffEntitlesSaid:=
 OpenClaim.holds_of_cond 3 Tryz.f3 rfl rfl rfl rfl rfl rfl rfl ⟨rfl,rfl,rfl,rfl,rfl⟩ rfl rfl rfl rfl rfl (by kernel_rfl) Tryz.func3 (by kernel_rfl)
  (of_decide_eq_true (by kernel_rfl)) (by unfold Func.isWrapper;first|(rw[if_pos (by decide+kernel)];kernel_rfl)|(rw[if_neg (by decide+kernel)];exact⟨rfl,rfl⟩))
  (fun os started H enc _ F=>by rw[OpenClaim.pre_eq_preRow];exact Zn0 hlaw os started H enc F)
end lawSpinoffEntitles
end Go.Proofs.YtkddgeclncafoaaGreatDoor
