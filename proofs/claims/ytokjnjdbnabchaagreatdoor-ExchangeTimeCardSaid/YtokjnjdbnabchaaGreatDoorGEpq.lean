/- ExchangePaths, ExchangeTime: for every input the call returns true, and each argument reads afterwards as it read before. -/
import Derived.Test.YtokjnjdbnabchaaGreatDoorQGEp10b
import Derived.Test.YtokjnjdbnabchaaGreatDoorQGEp10a
import Derived.Test.YtokjnjdbnabchaaGreatDoorQGEp10
import Derived.Test.YtokjnjdbnabchaaGreatDoorQGEp44
namespace Go.Proofs.YtokjnjdbnabchaaGreatDoor
section
theorem exchangePaths:Rows.ExchangePathsCardSaid:=
 lawExchangePaths.card fun A n c xs a b d W hp _ _ hr hn hi ha hb _=>ZdG A n c xs a b d W hp hr hn hi ha hb
theorem exchangeTime:Rows.ExchangeTimeCardSaid:=
 lawExchangeTime.card fun A n c xs a b d W hp _ _ hr hn hi ha hb _=>ZeY A n c xs a b d W hp hr hn hi ha hb
end
end Go.Proofs.YtokjnjdbnabchaaGreatDoor
