/- SpinoffEffects, SpinoffNew, SpinoffOld: for every input each call returns true, and each argument reads afterwards as it read before. -/
import Derived.Test.YtmamnnaiogidaaaGreatDoorQGU7
import Derived.Test.YtmamnnaiogidaaaGreatDoorQGU44
namespace Go.Proofs.YtmamnnaiogidaaaGreatDoor
section
theorem spinoffEffects:Rows.SpinoffEffectsCardSaid:=
 lawSpinoffEffects.card fun A n c xs f v W hp hr hn hz hi hm hpn hon hx=>ZfC A n c xs f v W hp hr hn hz hi hm hpn hon hx
theorem spinoffNew:Rows.SpinoffNewCardSaid:=
 lawSpinoffNew.card fun A n c xs f v W hp hr hn hz hi hm hpn hon hx=>Zl5 A n c xs f v W hp hr hn hz hi hm hpn hon hx
theorem spinoffOld:Rows.SpinoffOldCardSaid:=
 lawSpinoffOld.card fun A n c xs f v W hp hr hn hz hi hm hpn hon hx=>Zl6 A n c xs f v W hp hr hn hz hi hm hpn hon hx
end
end Go.Proofs.YtmamnnaiogidaaaGreatDoor
