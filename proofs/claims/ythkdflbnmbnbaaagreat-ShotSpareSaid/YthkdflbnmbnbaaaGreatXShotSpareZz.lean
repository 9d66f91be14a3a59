/- The given statement Rows.ShotSpareSaid of YthkdflbnmbnbaaaGreat is proved. No condition. -/
import Derived.Test.YthkdflbnmbnbaaaGreatXShotSpareCShotSpare
import Derived.Test.YthkdflbnmbnbaaaGreatXShotSpareP10j
namespace Go.Proofs.YthkdflbnmbnbaaaGreat
set_option linter.all false
open Go Go.Cat Go.Proofs
theorem shotSpare_holds : Rows.ShotSpareSaid := shotSpare_row (shotSpare_pure (fun x0 _ => l_ShotSpare x0))
end Go.Proofs.YthkdflbnmbnbaaaGreat
