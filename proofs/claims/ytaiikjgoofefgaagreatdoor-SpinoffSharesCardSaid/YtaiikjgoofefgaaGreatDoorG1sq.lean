/- SpinoffShares: for every input the call returns true, and each argument reads afterwards as it read before. Its condition is the card's own: the listed package variables are as the program's text lays them. -/
import Derived.Test.YtaiikjgoofefgaaGreatDoorQG1s6
import Derived.Test.YtaiikjgoofefgaaGreatDoorV2qG1s
namespace Go.Proofs.YtaiikjgoofefgaaGreatDoor
theorem spinoffShares : Rows.SpinoffSharesCardSaid :=
  lawSpinoffShares.card fun f0 f1 f2 W hp hl => shares_law f0 f1 f2 W hp hl
end Go.Proofs.YtaiikjgoofefgaaGreatDoor
