/- LotmapThens: for every input the call returns true, and each argument reads afterwards as it read before. -/
import Derived.Test.YtpnncoinlopndaaGreatDoorQGTn17
import Derived.Test.YtpnncoinlopndaaGreatDoorQGTn29
namespace Go.Proofs.YtpnncoinlopndaaGreatDoor
theorem lotmapThens : Rows.LotmapThensCardSaid :=
  lawLotmapThens.card fun a b W hp hma hda hmb hdb => thens_walk a b W hp hma hda hmb hdb
end Go.Proofs.YtpnncoinlopndaaGreatDoor
