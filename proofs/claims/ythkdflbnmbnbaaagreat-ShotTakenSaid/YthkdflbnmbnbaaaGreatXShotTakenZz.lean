/- The given statement Rows.ShotTakenSaid of YthkdflbnmbnbaaaGreat is proved. No condition. -/
import Derived.Test.YthkdflbnmbnbaaaGreatXShotTakenCShotTaken
import Derived.Test.YthkdflbnmbnbaaaGreatXShotTakenP10w
namespace Go.Proofs.YthkdflbnmbnbaaaGreat
set_option linter.all false
open Go Go.Cat Go.Proofs
theorem shotTaken_holds : Rows.ShotTakenSaid := shotTaken_row (shotTaken_pure (fun x0 x1 _ _ => l_ShotTaken x0 x1))
end Go.Proofs.YthkdflbnmbnbaaaGreat
