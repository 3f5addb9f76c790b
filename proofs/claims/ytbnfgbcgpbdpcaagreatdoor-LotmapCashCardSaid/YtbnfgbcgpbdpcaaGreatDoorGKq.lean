/- LotmapCash: for every input the call returns true, and each argument reads afterwards as it read before. -/
import Derived.Test.YtbnfgbcgpbdpcaaGreatDoorQGK22
import Derived.Test.YtbnfgbcgpbdpcaaGreatDoorQGK27
namespace Go.Proofs.YtbnfgbcgpbdpcaaGreatDoor
theorem lotmapCash : Rows.LotmapCashCardSaid :=
  lawLotmapCash.card fun A n c xs m W hp hr hn hz hi hm hd => cash_walk A n c xs m W hp hr hz hn hi hm hd
end Go.Proofs.YtbnfgbcgpbdpcaaGreatDoor
