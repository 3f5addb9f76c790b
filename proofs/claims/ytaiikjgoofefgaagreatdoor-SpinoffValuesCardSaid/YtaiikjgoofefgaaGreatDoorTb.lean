/- The table of powers of ten that strconv reads. -/
import Derived.Test.YtaiikjgoofefgaaGreatDoorN1
import Derived.Lib.LaidTab
import Derived.Lib.AppendIntMem
namespace Go.Proofs.YtaiikjgoofefgaaGreatDoor
open Go.RowKit Go.Shelf

def Pow (w : World) : Prop := Lib.TabIs Tryz.prog w "internal/strconv.uint64pow10" .u64 Lib.pow10Tab
theorem Pow.here {w w' : World} (h : Pow w) (hb : Below w.heap.size w w') : Pow w' := Lib.tabBelow_of_tabIs h w' hb
end Go.Proofs.YtaiikjgoofefgaaGreatDoor
