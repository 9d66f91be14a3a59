/- Leases, plain: whose are wanted back. No condition. -/
import Derived.Test.YthhoomhekolbnaaXLeaseHasP22g
namespace Go.Proofs
set_option linter.all false
open Go Go.Cat
set_option linter.all false

end Go.Proofs
