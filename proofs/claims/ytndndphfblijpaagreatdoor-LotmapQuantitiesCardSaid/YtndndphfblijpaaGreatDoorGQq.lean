/- LotmapQuantities: for every input the call returns true, and each argument reads afterwards as it read before. -/
import Derived.Test.YtndndphfblijpaaGreatDoorQGQ22
import Derived.Test.YtndndphfblijpaaGreatDoorLQqGQ
namespace Go.Proofs.YtndndphfblijpaaGreatDoor
theorem lotmapQuantities : Rows.LotmapQuantitiesCardSaid :=
  lawLotmapQuantities.card fun A n c xs m W hp hr hn hz hi hm hd => quantities_walk A n c xs m W hp hr hz hn hi hm hd
end Go.Proofs.YtndndphfblijpaaGreatDoor
