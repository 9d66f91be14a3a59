/- Chunks, plain: the document's sums. No condition. -/
import Derived.Test.YtpohijpdclienabGreatXScrubRotP270h
namespace Go.Proofs
set_option linter.all false
open Go Go.Cat
set_option linter.all false
def bit1 (c : Nat) : Nat := if c % 2 = 1 then (c / 2) ^^^ 2197175160 else c / 2
end Go.Proofs
