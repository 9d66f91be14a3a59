/- The given statement Rows.ScrubOrderSaid of YtpohijpdclienaaGreat is proved. No condition. -/
import Derived.Test.YtpohijpdclienaaGreatXScrubOrderCScrubOrder
import Derived.Test.YtpohijpdclienaaGreatXScrubOrderP27q
namespace Go.Proofs.YtpohijpdclienaaGreat
set_option linter.all false
open Go Go.Cat Go.Proofs
theorem scrubOrder_holds : Rows.ScrubOrderSaid := scrubOrder_row (scrubOrder_pure (fun x0 x1 _ _ => l_ScrubOrder x0 x1))
end Go.Proofs.YtpohijpdclienaaGreat
