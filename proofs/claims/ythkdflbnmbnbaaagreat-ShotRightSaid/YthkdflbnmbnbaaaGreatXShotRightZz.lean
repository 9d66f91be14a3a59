/- The given statement Rows.ShotRightSaid of YthkdflbnmbnbaaaGreat is proved. No condition. -/
import Derived.Test.YthkdflbnmbnbaaaGreatXShotRightCShotRight
import Derived.Test.YthkdflbnmbnbaaaGreatXShotRightP10D
namespace Go.Proofs.YthkdflbnmbnbaaaGreat
set_option linter.all false
open Go Go.Cat Go.Proofs
theorem shotRight_holds : Rows.ShotRightSaid := shotRight_row (shotRight_pure (fun x0 x1 _ _ => l_ShotRight x0 x1))
end Go.Proofs.YthkdflbnmbnbaaaGreat
