/- The given statement Rows.ScrubCleanSaid of YtpohijpdclienaaGreat is proved. No condition. -/
import Derived.Test.YtpohijpdclienaaGreatXScrubCleanCScrubClean
import Derived.Test.YtpohijpdclienaaGreatXScrubCleanP27t
namespace Go.Proofs.YtpohijpdclienaaGreat
set_option linter.all false
open Go Go.Cat Go.Proofs
theorem scrubClean_holds : Rows.ScrubCleanSaid := scrubClean_row (scrubClean_pure (fun x0 x1 o0 o1 => l_ScrubClean x0 x1 o0 o1))
end Go.Proofs.YtpohijpdclienaaGreat
