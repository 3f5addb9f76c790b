/- LotmapWhole: for every input the call returns true, and each argument reads afterwards as it read before. -/
import Derived.Test.YtbnfgbcgpbdpcaaGreatDoorQGW22
import Derived.Test.YtbnfgbcgpbdpcaaGreatDoorQGW27
namespace Go.Proofs.YtbnfgbcgpbdpcaaGreatDoor
theorem lotmapWhole : Rows.LotmapWholeCardSaid :=
  lawLotmapWhole.card fun A n c xs m W hp hr hn hz hi hm hd => whole_walk A n c xs m W hp hr hz hn hi hm hd
end Go.Proofs.YtbnfgbcgpbdpcaaGreatDoor
