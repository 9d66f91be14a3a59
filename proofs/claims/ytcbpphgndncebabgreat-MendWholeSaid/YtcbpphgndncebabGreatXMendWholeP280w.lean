/- Scrubbing, plain: which chains are right, as the program reckons it. No condition. -/
import Derived.Test.YtcbpphgndncebabGreatXMendWholeP280n
namespace Go.Proofs
set_option linter.all false
open Go Go.Cat
set_option linter.all false
end Go.Proofs
