/- Lto. -/
import Derived.Test.YtpnncoinlopndaaGreatDoorQGMp3
import Derived.Test.YtpnncoinlopndaaGreatDoorQGMp42
namespace Go.Proofs.YtpnncoinlopndaaGreatDoor
section
open Go.RowKit Go.Shelf
attribute [local go_sem] Oper.semAt_some
end
end Go.Proofs.YtpnncoinlopndaaGreatDoor
