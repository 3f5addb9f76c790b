/- BitimeAlgebra: for every input the call returns true, and each argument reads afterwards as it read before. Its condition is the card's own: the listed package variables are as the program's text lays them. -/
import Derived.Test.YtiefdlfninhbgaaGreatDoorCBitimeAlgebra
import Derived.Test.YtiefdlfninhbgaaGreatDoorL3
namespace Go.Proofs.YtiefdlfninhbgaaGreatDoor
theorem bitimeAlgebra : Rows.BitimeAlgebraCardSaid :=
  lawBitimeAlgebra.card fun A0 n0 c0 xs0 A1 n1 c1 xs1 A2 n2 c2 xs2 W h0 hn0 h1 hn1 h2 hn2 => algebra_law A0 A1 A2 n0 n1 n2 c0 c1 c2 xs0 xs1 xs2 W h0 h1 h2 hn0 hn1 hn2
end Go.Proofs.YtiefdlfninhbgaaGreatDoor
