/- Closed facts of the row of TopThereAndBack, piece a. No condition. -/
import Derived.Test.YtdcgbodbejgliaaGreatDoorRows
import Derived.JoinedOf
import Derived.KernelRfl
namespace Go.Proofs.YtdcgbodbejgliaaGreatDoor
set_option linter.all false
open Go Go.Proofs
set_option maxRecDepth 100000
theorem jf0:((Rows.topThereAndBackRow.inPlace == Tryz.prog.inPlace 5))=true:=by kernel_rfl
theorem jf1:((Rows.topThereAndBackRow.unfollowed == Tryz.prog.unfollowed 5))=true:=by kernel_rfl
end Go.Proofs.YtdcgbodbejgliaaGreatDoor
