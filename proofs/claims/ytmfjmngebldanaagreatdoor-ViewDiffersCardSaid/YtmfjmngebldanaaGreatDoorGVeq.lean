/- ViewOf, ViewReads, ViewDiffers: for every input the call returns true, and each argument reads afterwards as it read before. -/
import Derived.Test.YtmfjmngebldanaaGreatDoorQGVe30c
import Derived.Test.YtmfjmngebldanaaGreatDoorQGVe30b
import Derived.Test.YtmfjmngebldanaaGreatDoorQGVe30a
import Derived.Test.YtmfjmngebldanaaGreatDoorQGVe44
namespace Go.Proofs.YtmfjmngebldanaaGreatDoor
section
theorem viewOf:Rows.ViewOfCardSaid:=
 lawViewOf.card fun A n c xs A' n' c' ys k W hp hcap hnil hr hn hi _ _ hr' hn' hi' _=>ZmH A A' n n' c c' xs ys k W hp hcap hnil hr hn hi hr' hn' hi'
theorem viewReads:Rows.ViewReadsCardSaid:=
 lawViewReads.card fun A n c xs f v d W hp hcap hnil hr hn hi hf _=>ZgJ A n c xs f v d W hp hcap hnil hr hn hi hf
theorem viewDiffers:Rows.ViewDiffersCardSaid:=
 lawViewDiffers.card fun A n c xs A' n' c' ys W hp hcap hnil hr hn hi hcap' hnil' hr' hn' hi'=>Zep A A' n n' c c' xs ys W hp hcap hnil hr hn hi hcap' hnil' hr' hn' hi'
end
end Go.Proofs.YtmfjmngebldanaaGreatDoor
