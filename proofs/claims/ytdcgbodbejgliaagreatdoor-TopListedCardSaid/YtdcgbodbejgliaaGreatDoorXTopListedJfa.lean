/- Closed facts of the row of TopListed, piece a. No condition. -/
import Derived.Test.YtdcgbodbejgliaaGreatDoorRows
import Derived.JoinedOf
import Derived.KernelRfl
namespace Go.Proofs.YtdcgbodbejgliaaGreatDoor
set_option linter.all false
open Go Go.Proofs
set_option maxRecDepth 100000
theorem jf0 : ((Rows.topListedRow.inPlace == Tryz.prog.inPlace 3)) = true := by kernel_rfl
theorem jf1 : ((Rows.topListedRow.unfollowed == Tryz.prog.unfollowed 3)) = true := by kernel_rfl
end Go.Proofs.YtdcgbodbejgliaaGreatDoor
