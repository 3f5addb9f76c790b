/- LotmapOthers: for every input the call returns true, and each argument reads afterwards as it read before. -/
import Derived.Test.YtbnfgbcgpbdpcaaGreatDoorQGO22
import Derived.Test.YtbnfgbcgpbdpcaaGreatDoorQGO28
namespace Go.Proofs.YtbnfgbcgpbdpcaaGreatDoor
theorem lotmapOthers : Rows.LotmapOthersCardSaid :=
  lawLotmapOthers.card fun A n c xs m W hp hr hn hz hi hm hd => others_walk A n c xs m W hp hr hz hn hi hm hd
end Go.Proofs.YtbnfgbcgpbdpcaaGreatDoor
