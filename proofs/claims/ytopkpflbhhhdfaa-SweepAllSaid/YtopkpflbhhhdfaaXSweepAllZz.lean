/- The given statement Rows.SweepAllSaid of Ytopkpflbhhhdfaa is proved. No condition. -/
import Derived.Test.YtopkpflbhhhdfaaXSweepAllCSweepAll
import Derived.Test.YtopkpflbhhhdfaaXSweepAllP29j
namespace Go.Proofs.Ytopkpflbhhhdfaa
set_option linter.all false
open Go Go.Cat Go.Proofs
theorem sweepAll_holds : Rows.SweepAllSaid := sweepAll_row (sweepAll_pure (fun x0 x1 x2 o0 o1 o2 => l_SweepAll x0 x1 x2 o0 o1 o2))
end Go.Proofs.Ytopkpflbhhhdfaa
