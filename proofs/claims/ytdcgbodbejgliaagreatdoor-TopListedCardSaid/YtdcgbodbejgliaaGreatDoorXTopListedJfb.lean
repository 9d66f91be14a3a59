/- Closed facts of the row of TopListed, piece b. No condition. -/
import Derived.Test.YtdcgbodbejgliaaGreatDoorRows
import Derived.JoinedOf
import Derived.KernelRfl
namespace Go.Proofs.YtdcgbodbejgliaaGreatDoor
set_option linter.all false
open Go Go.Proofs
set_option maxRecDepth 100000
theorem jf2 : ((Rows.topListedRow.recurses == Tryz.prog.recurses 3)) = true := by kernel_rfl
theorem jf3 : ((Rows.topListedRow.named == Tryz.prog.varsNamed 3)) = true := by kernel_rfl
end Go.Proofs.YtdcgbodbejgliaaGreatDoor
