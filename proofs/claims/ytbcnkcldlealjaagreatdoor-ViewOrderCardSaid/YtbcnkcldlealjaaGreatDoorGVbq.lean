/- ViewReplaced, ViewDifferences, ViewOrder: for every input the call returns true, and each argument reads afterwards as it read before. -/
import Derived.Test.YtbcnkcldlealjaaGreatDoorQGVb9c
import Derived.Test.YtbcnkcldlealjaaGreatDoorQGVb9b
import Derived.Test.YtbcnkcldlealjaaGreatDoorQGVb9a
import Derived.Test.YtbcnkcldlealjaaGreatDoorQGVb9
import Derived.Test.YtbcnkcldlealjaaGreatDoorQGVb36
import Derived.Test.YtbcnkcldlealjaaGreatDoorQGVb41
import Derived.Test.YtbcnkcldlealjaaGreatDoorQGVb44
namespace Go.Proofs.YtbcnkcldlealjaaGreatDoor
section
theorem viewReplaced:Rows.ViewReplacedCardSaid:=
 lawViewReplaced.card fun A n c xs f v q W hp hcap hnil hr hn hi hf hq=>ZbM A n c xs f v q W hp hcap hnil hr hn hi hf hq
theorem viewDifferences:Rows.ViewDifferencesCardSaid:=
 lawViewDifferences.card fun A n c xs p q W hp hcap hnil hr hn hi h1 h2=>Zai A n c xs p q W hp hcap hnil hr hn hi h1 h2
theorem viewOrder:Rows.ViewOrderCardSaid:=
 lawViewOrder.card fun A n c xs Ao no co os W hp hcap hnil hr hn hi _hcap2 _hnil2 ho hno hob=>Zey A n c xs Ao no co os W hp hcap hnil hr hn hi ho hno hob
end
end Go.Proofs.YtbcnkcldlealjaaGreatDoor
