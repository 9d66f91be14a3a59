/- The given statement Rows.LeaseSharesSaid of Ythhoomhekolbnaa is proved. No condition. -/
import Derived.Test.YthhoomhekolbnaaXLeaseSharesCLeaseShares
import Derived.Test.YthhoomhekolbnaaXLeaseSharesP22d
namespace Go.Proofs.Ythhoomhekolbnaa
set_option linter.all false
open Go Go.Cat Go.Proofs
theorem leaseShares_holds : Rows.LeaseSharesSaid := leaseShares_row (leaseShares_pure (fun x0 x1 _ _ => l_LeaseShares x0 x1))
end Go.Proofs.Ythhoomhekolbnaa
