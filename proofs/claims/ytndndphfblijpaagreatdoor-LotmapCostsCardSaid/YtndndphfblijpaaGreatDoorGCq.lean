/- LotmapCosts: for every input the call returns true, and each argument reads afterwards as it read before. -/
import Derived.Test.YtndndphfblijpaaGreatDoorQGC22
import Derived.Test.YtndndphfblijpaaGreatDoorQGC27
namespace Go.Proofs.YtndndphfblijpaaGreatDoor
theorem lotmapCosts : Rows.LotmapCostsCardSaid :=
  lawLotmapCosts.card fun A n c xs m W hp hr hn hz hi hm hd => costs_walk A n c xs m W hp hr hz hn hi hm hd
end Go.Proofs.YtndndphfblijpaaGreatDoor
