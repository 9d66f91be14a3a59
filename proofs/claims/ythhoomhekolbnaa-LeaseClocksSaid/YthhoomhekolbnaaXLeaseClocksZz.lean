/- The given statement Rows.LeaseClocksSaid of Ythhoomhekolbnaa is proved. No condition. -/
import Derived.Test.YthhoomhekolbnaaXLeaseClocksCLeaseClocks
import Derived.Test.YthhoomhekolbnaaXLeaseClocksP22g
namespace Go.Proofs.Ythhoomhekolbnaa
set_option linter.all false
open Go Go.Cat Go.Proofs
theorem leaseClocks_holds : Rows.LeaseClocksSaid := leaseClocks_row (leaseClocks_pure (fun x0 x1 x2 x3 x4 o0 o1 o2 o3 o4 => l_LeaseClocks x0 x1 x2 x3 x4 o0 o1 o2 o3 o4))
end Go.Proofs.Ythhoomhekolbnaa
