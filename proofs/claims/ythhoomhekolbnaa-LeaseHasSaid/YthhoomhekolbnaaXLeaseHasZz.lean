/- The given statement Rows.LeaseHasSaid of Ythhoomhekolbnaa is proved. No condition. -/
import Derived.Test.YthhoomhekolbnaaXLeaseHasCLeaseHas
import Derived.Test.YthhoomhekolbnaaXLeaseHasP22j
namespace Go.Proofs.Ythhoomhekolbnaa
set_option linter.all false
open Go Go.Cat Go.Proofs
theorem leaseHas_holds : Rows.LeaseHasSaid := leaseHas_row (leaseHas_pure (fun x0 x1 x2 x3 o0 o1 o2 o3 => l_LeaseHas x0 x1 x2 x3 o0 o1 o2 o3))
end Go.Proofs.Ythhoomhekolbnaa
