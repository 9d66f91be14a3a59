/- The given statement Rows.ShotStillSaid of YthkdflbnmbnbaaaGreat is proved. No condition. -/
import Derived.Test.YthkdflbnmbnbaaaGreatXShotStillCShotStill
import Derived.Test.YthkdflbnmbnbaaaGreatXShotStillP10z
namespace Go.Proofs.YthkdflbnmbnbaaaGreat
set_option linter.all false
open Go Go.Cat Go.Proofs
theorem shotStill_holds : Rows.ShotStillSaid := shotStill_row (shotStill_pure (fun x0 x1 _ _ => l_ShotStill x0 x1))
end Go.Proofs.YthkdflbnmbnbaaaGreat
