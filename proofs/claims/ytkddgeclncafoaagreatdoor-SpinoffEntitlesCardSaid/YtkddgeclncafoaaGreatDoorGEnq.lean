/- SpinoffEntitles: for every input the call returns true, and each argument reads afterwards as it read before. -/
import Derived.Test.YtkddgeclncafoaaGreatDoorQGEn44
namespace Go.Proofs.YtkddgeclncafoaaGreatDoor
section
theorem spinoffEntitles:Rows.SpinoffEntitlesCardSaid:=
 lawSpinoffEntitles.card fun A n c xs f v W hp hcap hr hn _ hi hm hpn hon hx=>ZdB A n c xs f v W hp hcap hr hn hi hm hpn hon hx
end
end Go.Proofs.YtkddgeclncafoaaGreatDoor
