/- The given statement Rows.LeaseTellsSaid of Ythhoomhekolbnaa is proved. No condition. -/
import Derived.Test.YthhoomhekolbnaaXLeaseTellsCLeaseTells
import Derived.Test.YthhoomhekolbnaaXLeaseTellsP22i
namespace Go.Proofs.Ythhoomhekolbnaa
set_option linter.all false
open Go Go.Cat Go.Proofs
theorem leaseTells_holds : Rows.LeaseTellsSaid := leaseTells_row (leaseTells_pure (fun x0 x1 x2 x3 x4 _ _ _ _ _ => l_LeaseTells x0 x1 x2 x3 x4))
end Go.Proofs.Ythhoomhekolbnaa
