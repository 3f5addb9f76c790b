/- ExchangeOpposite: for every input the call returns true, and each argument reads afterwards as it read before. -/
import Derived.Test.YtokjnjdbnabchaaGreatDoorQGEo13a
import Derived.Test.YtokjnjdbnabchaaGreatDoorQGEo13
import Derived.Test.YtokjnjdbnabchaaGreatDoorQGEo44
namespace Go.Proofs.YtokjnjdbnabchaaGreatDoor
section
theorem exchangeOpposite:Rows.ExchangeOppositeCardSaid:=
 lawExchangeOpposite.card fun A n c xs a b d W hp _ _ hr hn hi ha hb _=>Zas A n c xs a b d W hp hr hn hi ha hb
end
end Go.Proofs.YtokjnjdbnabchaaGreatDoor
