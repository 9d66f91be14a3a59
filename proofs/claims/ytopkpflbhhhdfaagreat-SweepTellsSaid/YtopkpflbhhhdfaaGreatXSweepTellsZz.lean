/- The given statement Rows.SweepTellsSaid of YtopkpflbhhhdfaaGreat is proved. No condition. -/
import Derived.Test.YtopkpflbhhhdfaaGreatXSweepTellsCSweepTells
import Derived.Test.YtopkpflbhhhdfaaGreatXSweepTellsP290m
namespace Go.Proofs.YtopkpflbhhhdfaaGreat
set_option linter.all false
open Go Go.Cat Go.Proofs
theorem sweepTells_holds : Rows.SweepTellsSaid := sweepTells_row (sweepTells_pure (fun x0 x1 o0 o1 => l_SweepTells x0 x1 o0 o1))
end Go.Proofs.YtopkpflbhhhdfaaGreat
