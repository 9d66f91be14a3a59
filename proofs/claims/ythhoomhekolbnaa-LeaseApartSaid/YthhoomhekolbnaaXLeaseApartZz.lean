/- The given statement Rows.LeaseApartSaid of Ythhoomhekolbnaa is proved. No condition. -/
import Derived.Test.YthhoomhekolbnaaXLeaseApartCLeaseApart
import Derived.Test.YthhoomhekolbnaaXLeaseApartP22e
namespace Go.Proofs.Ythhoomhekolbnaa
set_option linter.all false
open Go Go.Cat Go.Proofs
theorem leaseApart_holds : Rows.LeaseApartSaid := leaseApart_row (leaseApart_pure (fun x0 _ => l_LeaseApart x0))
end Go.Proofs.Ythhoomhekolbnaa
