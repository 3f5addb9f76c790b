/- LotmapSuccession: for every input the call returns true, and each argument reads afterwards as it read before. -/
import Derived.Test.YtndndphfblijpaaGreatDoorQGS20
import Derived.Test.YtndndphfblijpaaGreatDoorLSqGS
namespace Go.Proofs.YtndndphfblijpaaGreatDoor
theorem lotmapSuccession : Rows.LotmapSuccessionCardSaid :=
  lawLotmapSuccession.card fun A n c xs a b W hp hr hn hz hi hma hda hmb hdb => succession_walk A n c xs a b W hp hr hz hn hi hma hda hmb hdb
end Go.Proofs.YtndndphfblijpaaGreatDoor
