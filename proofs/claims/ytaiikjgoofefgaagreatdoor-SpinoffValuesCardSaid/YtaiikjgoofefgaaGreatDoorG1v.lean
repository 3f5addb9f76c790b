/- SpinoffValues: for every input the call returns true, and each argument reads afterwards as it read before. Its condition is the card's own: the listed package variables are as the program's text lays them. -/
import Derived.Test.YtaiikjgoofefgaaGreatDoorCSpinoffValues
import Derived.Test.YtaiikjgoofefgaaGreatDoorV1
namespace Go.Proofs.YtaiikjgoofefgaaGreatDoor
theorem spinoffValues : Rows.SpinoffValuesCardSaid :=
  lawSpinoffValues.card fun f0 f1 f2 W hp hl => values_law f0 f1 f2 W hp hl
end Go.Proofs.YtaiikjgoofefgaaGreatDoor
