/- Chunks, plain: the document's pages. No condition. -/
import Derived.Test.YtpohijpdclienabGreatXScrubRotP270i
namespace Go.Proofs
set_option linter.all false
open Go Go.Cat
set_option linter.all false
end Go.Proofs
