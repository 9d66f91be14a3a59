/- The given statement Rows.ShotQuietSaid of YthkdflbnmbnbaaaGreat is proved. No condition. -/
import Derived.Test.YthkdflbnmbnbaaaGreatXShotQuietCShotQuiet
import Derived.Test.YthkdflbnmbnbaaaGreatXShotQuietP10l
namespace Go.Proofs.YthkdflbnmbnbaaaGreat
set_option linter.all false
open Go Go.Cat Go.Proofs
theorem shotQuiet_holds : Rows.ShotQuietSaid := shotQuiet_row (shotQuiet_pure (fun x0 x1 _ _ => l_ShotQuiet x0 x1))
end Go.Proofs.YthkdflbnmbnbaaaGreat
