/- BitimeUnique: for every input the call returns true, and each argument reads afterwards as it read before. Its condition is the card's own: the listed package variables are as the program's text lays them. -/
import Derived.Test.YtiefdlfninhbgaaGreatDoorCBitimeUnique
import Derived.Test.YtiefdlfninhbgaaGreatDoorL5
namespace Go.Proofs.YtiefdlfninhbgaaGreatDoor
theorem bitimeUnique : Rows.BitimeUniqueCardSaid :=
  lawBitimeUnique.card fun A0 n0 c0 xs0 k1 h1 k2 _ k3 _ W h0 hn0 hc0 => unique_law A0 n0 c0 xs0 k1 k2 k3 h1 W h0 hn0 hc0
end Go.Proofs.YtiefdlfninhbgaaGreatDoor
