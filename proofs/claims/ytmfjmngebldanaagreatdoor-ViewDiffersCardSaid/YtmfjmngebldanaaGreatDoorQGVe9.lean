/- Pr. -/
import Derived.Test.YtmfjmngebldanaaGreatDoorQGVe38
import Derived.Test.YtmfjmngebldanaaGreatDoorQGVe1
namespace Go.Proofs.YtmfjmngebldanaaGreatDoor
section
open Go.RowKit Go.Shelf
end
end Go.Proofs.YtmfjmngebldanaaGreatDoor
