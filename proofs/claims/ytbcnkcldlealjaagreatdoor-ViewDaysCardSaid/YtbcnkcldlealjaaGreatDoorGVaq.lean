/- ViewDays, ViewSteps: for every input the call returns true, and each argument reads afterwards as it read before. -/
import Derived.Test.YtbcnkcldlealjaaGreatDoorQGVa11b
import Derived.Test.YtbcnkcldlealjaaGreatDoorQGVa11a
import Derived.Test.YtbcnkcldlealjaaGreatDoorQGVa11
import Derived.Test.YtbcnkcldlealjaaGreatDoorQGVa44
namespace Go.Proofs.YtbcnkcldlealjaaGreatDoor
section
theorem viewDays:Rows.ViewDaysCardSaid:=
 lawViewDays.card fun A n c xs d W hp hcap hnil hr hn hi _=>Zfb A n c xs d W hp hcap hnil hr hn hi
theorem viewSteps:Rows.ViewStepsCardSaid:=
 lawViewSteps.card fun A n c xs W hp hcap hnil hr hn hi=>ZdJ A n c xs W hp hcap hnil hr hn hi
end
end Go.Proofs.YtbcnkcldlealjaaGreatDoor
