/- BitimeSets: for every input the call returns true, and each argument reads afterwards as it read before. Its condition is the card's own: the listed package variables are as the program's text lays them. -/
import Derived.Test.YtiefdlfninhbgaaGreatDoorCBitimeSets
import Derived.Test.YtiefdlfninhbgaaGreatDoorL1
namespace Go.Proofs.YtiefdlfninhbgaaGreatDoor
theorem bitimeSets : Rows.BitimeSetsCardSaid :=
  lawBitimeSets.card fun A0 n0 c0 xs0 k1 _ k2 _ W hp h0 hn0 => sets_law A0 n0 c0 xs0 k1 k2 W hp h0 hn0
end Go.Proofs.YtiefdlfninhbgaaGreatDoor
