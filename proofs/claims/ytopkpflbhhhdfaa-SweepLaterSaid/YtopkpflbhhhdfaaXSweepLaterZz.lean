/- The given statement Rows.SweepLaterSaid of Ytopkpflbhhhdfaa is proved. No condition. -/
import Derived.Test.YtopkpflbhhhdfaaXSweepLaterCSweepLater
import Derived.Test.YtopkpflbhhhdfaaXSweepLaterP29k
namespace Go.Proofs.Ytopkpflbhhhdfaa
set_option linter.all false
open Go Go.Cat Go.Proofs
theorem sweepLater_holds : Rows.SweepLaterSaid := sweepLater_row (sweepLater_pure (fun x0 x1 x2 x3 o0 o1 o2 o3 => l_SweepLater x0 x1 x2 x3 o0 o1 o2 o3))
end Go.Proofs.Ytopkpflbhhhdfaa
