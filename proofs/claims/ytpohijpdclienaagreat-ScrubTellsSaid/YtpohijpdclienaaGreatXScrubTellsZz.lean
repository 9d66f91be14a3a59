/- The given statement Rows.ScrubTellsSaid of YtpohijpdclienaaGreat is proved. No condition. -/
import Derived.Test.YtpohijpdclienaaGreatXScrubTellsCScrubTells
import Derived.Test.YtpohijpdclienaaGreatXScrubTellsP27y
namespace Go.Proofs.YtpohijpdclienaaGreat
set_option linter.all false
open Go Go.Cat Go.Proofs
theorem scrubTells_holds : Rows.ScrubTellsSaid := scrubTells_row (scrubTells_pure (fun x0 x1 o0 o1 => l_ScrubTells x0 x1 o0 o1))
end Go.Proofs.YtpohijpdclienaaGreat
