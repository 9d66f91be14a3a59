/- The given statement Rows.SweepNamesSaid of Ytopkpflbhhhdfaa is proved. No condition. -/
import Derived.Test.YtopkpflbhhhdfaaXSweepNamesCSweepNames
import Derived.Test.YtopkpflbhhhdfaaXSweepNamesP29l
namespace Go.Proofs.Ytopkpflbhhhdfaa
set_option linter.all false
open Go Go.Cat Go.Proofs
theorem sweepNames_holds : Rows.SweepNamesSaid := sweepNames_row (sweepNames_pure (fun x0 x1 x2 x3 o0 o1 o2 o3 => l_SweepNames x0 x1 x2 x3 o0 o1 o2 o3))
end Go.Proofs.Ytopkpflbhhhdfaa
