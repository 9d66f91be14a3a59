/- Leases, plain: the document's answer. No condition. -/
import Derived.Test.YthhoomhekolbnaaXLeaseHasP22h
namespace Go.Proofs
set_option linter.all false
open Go Go.Cat
set_option linter.all false

/-! What is had. -/
/-! What is right, told. -/
end Go.Proofs
