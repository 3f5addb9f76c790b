/- LotmapSums: for every input the call returns true, and each argument reads afterwards as it read before. -/
import Derived.Test.YtpnncoinlopndaaGreatDoorQGSm15
import Derived.Test.YtpnncoinlopndaaGreatDoorQGSm42
namespace Go.Proofs.YtpnncoinlopndaaGreatDoor
open Go.Lib renaming hid→hdz
section
theorem lotmapSums:Rows.LotmapSumsCardSaid:=
 lawLotmapSums.Zoa fun A n c ls m q w hp hc hs hn _ hi hm hd hq=>Zkw A n c ls m q w hp hs hc (Nat.le_trans hn (by decide)) hi hm hd (Nat.le_trans hq (by decide))
end
end Go.Proofs.YtpnncoinlopndaaGreatDoor
