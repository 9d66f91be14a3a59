/- The given statement Rows.SweepKeepsSaid of YtopkpflbhhhdfaaGreat is proved. No condition. -/
import Derived.Test.YtopkpflbhhhdfaaGreatXSweepKeepsCSweepKeeps
import Derived.Test.YtopkpflbhhhdfaaGreatXSweepKeepsP290n
namespace Go.Proofs.YtopkpflbhhhdfaaGreat
set_option linter.all false
open Go Go.Cat Go.Proofs
theorem sweepKeeps_holds : Rows.SweepKeepsSaid := sweepKeeps_row (sweepKeeps_pure (fun x0 x1 x2 o0 o1 o2 => l_SweepKeeps x0 x1 x2 o0 o1 o2))
end Go.Proofs.YtopkpflbhhhdfaaGreat
