/- LotmapMaps: for every input the call returns true, and each argument reads afterwards as it read before. -/
import Derived.Test.YtpnncoinlopndaaGreatDoorQGMp44
namespace Go.Proofs.YtpnncoinlopndaaGreatDoor
theorem lotmapMaps:Rows.LotmapMapsCardSaid:=
 lawLotmapMaps.card fun A n c ls m w hp hc hs hn hz hi hm hd=>ZjB A n c ls m w hp hs hc hz (Nat.le_trans hn (by decide)) hi hm hd
end Go.Proofs.YtpnncoinlopndaaGreatDoor
