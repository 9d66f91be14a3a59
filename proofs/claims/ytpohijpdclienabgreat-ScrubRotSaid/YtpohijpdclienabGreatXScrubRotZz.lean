/- The given statement Rows.ScrubRotSaid of YtpohijpdclienabGreat is proved. No condition. -/
import Derived.Test.YtpohijpdclienabGreatXScrubRotCScrubRot
import Derived.Test.YtpohijpdclienabGreatXScrubRotP270x
namespace Go.Proofs.YtpohijpdclienabGreat
set_option linter.all false
open Go Go.Cat Go.Proofs
theorem scrubRot_holds : Rows.ScrubRotSaid := scrubRot_row (scrubRot_pure (fun x0 x1 x2 x3 x4 x5 o0 o1 o2 o3 o4 o5 => l_ScrubRot x0 x1 x2 x3 x4 x5 o0 o1 o2 o3 o4 o5))
end Go.Proofs.YtpohijpdclienabGreat
