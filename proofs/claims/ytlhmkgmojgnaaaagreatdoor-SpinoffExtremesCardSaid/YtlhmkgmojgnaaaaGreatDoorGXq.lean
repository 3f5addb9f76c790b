/- SpinoffExtremes: for every input the call returns true, and each argument reads afterwards as it read before. -/
import Derived.Test.YtlhmkgmojgnaaaaGreatDoorQGX44
namespace Go.Proofs.YtlhmkgmojgnaaaaGreatDoor
section
theorem spinoffExtremes:Rows.SpinoffExtremesCardSaid:=
 lawSpinoffExtremes.card fun A n c xs f v W hp hr hn _ hi hm hpn hon hx=>Zhs A n c xs f v W hp hr hn hi hm hpn hon hx
end
end Go.Proofs.YtlhmkgmojgnaaaaGreatDoor
