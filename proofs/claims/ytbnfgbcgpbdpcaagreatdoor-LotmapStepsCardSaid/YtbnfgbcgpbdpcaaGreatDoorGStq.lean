/- LotmapSteps: for every input the call returns true, and each argument reads afterwards as it read before. -/
import Derived.Test.YtbnfgbcgpbdpcaaGreatDoorQGSt22
import Derived.Test.YtbnfgbcgpbdpcaaGreatDoorLStqGSt
namespace Go.Proofs.YtbnfgbcgpbdpcaaGreatDoor
theorem lotmapSteps : Rows.LotmapStepsCardSaid :=
  lawLotmapSteps.card fun A n c xs m W hp hr hn hz hi hm hd => steps_walk A n c xs m W hp hr hz hn hi hm hd
end Go.Proofs.YtbnfgbcgpbdpcaaGreatDoor
