/- BitimeAreas: for every input the call returns true, and each argument reads afterwards as it read before. Its condition is the card's own: the listed package variables are as the program's text lays them. -/
import Derived.Test.YtiefdlfninhbgaaGreatDoorCBitimeAreas
import Derived.Test.YtiefdlfninhbgaaGreatDoorL6
namespace Go.Proofs.YtiefdlfninhbgaaGreatDoor
theorem bitimeAreas : Rows.BitimeAreasCardSaid :=
  lawBitimeAreas.card fun A0 n0 c0 xs0 A1 n1 c1 xs1 W hp h0 hn0 h1 hn1 => areas_law A0 A1 n0 n1 c0 c1 xs0 xs1 W hp h0 h1 hn0 hn1
end Go.Proofs.YtiefdlfninhbgaaGreatDoor
