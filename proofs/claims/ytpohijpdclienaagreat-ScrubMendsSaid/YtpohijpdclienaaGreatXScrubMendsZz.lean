/- The given statement Rows.ScrubMendsSaid of YtpohijpdclienaaGreat is proved. No condition. -/
import Derived.Test.YtpohijpdclienaaGreatXScrubMendsCScrubMends
import Derived.Test.YtpohijpdclienaaGreatXScrubMendsP27v
namespace Go.Proofs.YtpohijpdclienaaGreat
set_option linter.all false
open Go Go.Cat Go.Proofs
theorem scrubMends_holds : Rows.ScrubMendsSaid := scrubMends_row (scrubMends_pure (fun x0 x1 o0 o1 => l_ScrubMends x0 x1 o0 o1))
end Go.Proofs.YtpohijpdclienaaGreat
