/- RTh. -/
import Derived.Test.YtpnncoinlopndaaGreatDoorQGSm26
namespace Go.Proofs.YtpnncoinlopndaaGreatDoor
open Go.Lib renaming hid→hdz
section
open Go.RowKit Go.Shelf
attribute [local go_sem ↓] Go.wp_at_zero Go.wp_at_succ
end
end Go.Proofs.YtpnncoinlopndaaGreatDoor
