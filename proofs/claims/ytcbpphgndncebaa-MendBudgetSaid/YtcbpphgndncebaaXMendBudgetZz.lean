/- The given statement Rows.MendBudgetSaid of Ytcbpphgndncebaa is proved. No condition. -/
import Derived.Test.YtcbpphgndncebaaXMendBudgetCMendBudget
import Derived.Test.YtcbpphgndncebaaXMendBudgetP28e
namespace Go.Proofs.Ytcbpphgndncebaa
set_option linter.all false
open Go Go.Cat Go.Proofs
theorem mendBudget_holds : Rows.MendBudgetSaid := mendBudget_row (mendBudget_pure (fun x0 x1 o0 o1 => l_MendBudget x0 x1 o0 o1))
end Go.Proofs.Ytcbpphgndncebaa
