/- Closed facts of the row of TopThereAndBack, piece b. No condition. -/
import Derived.Test.YtdcgbodbejgliaaGreatDoorRows
import Derived.JoinedOf
import Derived.KernelRfl
namespace Go.Proofs.YtdcgbodbejgliaaGreatDoor
set_option linter.all false
open Go Go.Proofs
set_option maxRecDepth 100000
theorem jf2:((Rows.topThereAndBackRow.recurses == Tryz.prog.recurses 5))=true:=by kernel_rfl
theorem jf3:((Rows.topThereAndBackRow.named == Tryz.prog.varsNamed 5))=true:=by kernel_rfl
end Go.Proofs.YtdcgbodbejgliaaGreatDoor
