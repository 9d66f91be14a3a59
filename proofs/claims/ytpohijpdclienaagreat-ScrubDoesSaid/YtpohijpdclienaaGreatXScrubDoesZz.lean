/- The given statement Rows.ScrubDoesSaid of YtpohijpdclienaaGreat is proved. No condition. -/
import Derived.Test.YtpohijpdclienaaGreatXScrubDoesCScrubDoes
import Derived.Test.YtpohijpdclienaaGreatXScrubDoesP27r
namespace Go.Proofs.YtpohijpdclienaaGreat
set_option linter.all false
open Go Go.Cat Go.Proofs
theorem scrubDoes_holds : Rows.ScrubDoesSaid := scrubDoes_row (scrubDoes_pure (fun x0 x1 x2 o0 o1 o2 => l_ScrubDoes x0 x1 x2 o0 o1 o2))
end Go.Proofs.YtpohijpdclienaaGreat
