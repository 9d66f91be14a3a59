/- The given statement Rows.LeaseRecallsSaid of Ythhoomhekolbnaa is proved. No condition. -/
import Derived.Test.YthhoomhekolbnaaXLeaseRecallsCLeaseRecalls
import Derived.Test.YthhoomhekolbnaaXLeaseRecallsP22h
namespace Go.Proofs.Ythhoomhekolbnaa
set_option linter.all false
open Go Go.Cat Go.Proofs
theorem leaseRecalls_holds : Rows.LeaseRecallsSaid := leaseRecalls_row (leaseRecalls_pure (fun x0 x1 x2 _ _ _ => l_LeaseRecalls x0 x1 x2))
end Go.Proofs.Ythhoomhekolbnaa
