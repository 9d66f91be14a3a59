/- The given statement Rows.SweepClockSaid of Ytopkpflbhhhdfaa is proved. No condition. -/
import Derived.Test.YtopkpflbhhhdfaaXSweepClockCSweepClock
import Derived.Test.YtopkpflbhhhdfaaXSweepClockP29m
namespace Go.Proofs.Ytopkpflbhhhdfaa
set_option linter.all false
open Go Go.Cat Go.Proofs
theorem sweepClock_holds : Rows.SweepClockSaid := sweepClock_row (sweepClock_pure (fun x0 x1 x2 x3 x4 o0 o1 o2 o3 o4 => l_SweepClock x0 x1 x2 x3 x4 o0 o1 o2 o3 o4))
end Go.Proofs.Ytopkpflbhhhdfaa
