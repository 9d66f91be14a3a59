/- Chunks, plain: what is had, by both. No condition. -/
import Derived.Test.YtpohijpdclienabGreatXScrubRotP270k
namespace Go.Proofs
set_option linter.all false
open Go Go.Cat
set_option linter.all false
end Go.Proofs
