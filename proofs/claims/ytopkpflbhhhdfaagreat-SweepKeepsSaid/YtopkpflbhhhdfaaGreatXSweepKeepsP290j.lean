/- Sweeping, plain: all that is behind a sweep. No condition. -/
import Derived.Test.YtopkpflbhhhdfaaGreatXSweepKeepsP290i
namespace Go.Proofs
set_option linter.all false
open Go Go.Cat
set_option linter.all false

end Go.Proofs
