/- Closed facts of the row of TopPacks, piece b. No condition. -/
import Derived.Test.YtdcgbodbejgliaaGreatDoorRows
import Derived.JoinedOf
import Derived.KernelRfl
namespace Go.Proofs.YtdcgbodbejgliaaGreatDoor
set_option linter.all false
open Go Go.Proofs
set_option maxRecDepth 100000
theorem jf2 : ((Rows.topPacksRow.recurses == Tryz.prog.recurses 7)) = true := by kernel_rfl
theorem jf3 : ((Rows.topPacksRow.named == Tryz.prog.varsNamed 7)) = true := by kernel_rfl
end Go.Proofs.YtdcgbodbejgliaaGreatDoor
