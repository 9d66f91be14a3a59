/- The given statement Rows.ScrubAllSaid of YtpohijpdclienaaGreat is proved. No condition. -/
import Derived.Test.YtpohijpdclienaaGreatXScrubAllCScrubAll
import Derived.Test.YtpohijpdclienaaGreatXScrubAllP27p
namespace Go.Proofs.YtpohijpdclienaaGreat
set_option linter.all false
open Go Go.Cat Go.Proofs
theorem scrubAll_holds : Rows.ScrubAllSaid := scrubAll_row (scrubAll_pure (fun x0 x1 x2 _ _ _ => l_ScrubAll x0 x1 x2))
end Go.Proofs.YtpohijpdclienaaGreat
