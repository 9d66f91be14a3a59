/- Closed facts of the row of TopClients, piece b. No condition. -/
import Derived.Test.YtdcgbodbejgliaaGreatDoorRows
import Derived.JoinedOf
import Derived.KernelRfl
namespace Go.Proofs.YtdcgbodbejgliaaGreatDoor
set_option linter.all false
open Go Go.Proofs
set_option maxRecDepth 100000
theorem jf2 : ((Rows.topClientsRow.recurses == Tryz.prog.recurses 6)) = true := by kernel_rfl
theorem jf3 : ((Rows.topClientsRow.named == Tryz.prog.varsNamed 6)) = true := by kernel_rfl
end Go.Proofs.YtdcgbodbejgliaaGreatDoor
