/- Leases, plain: uses and what is let go. No condition. -/
import Derived.Test.YthhoomhekolbnaaXLeaseHasP22f
namespace Go.Proofs
set_option linter.all false
open Go Go.Cat
set_option linter.all false

end Go.Proofs
