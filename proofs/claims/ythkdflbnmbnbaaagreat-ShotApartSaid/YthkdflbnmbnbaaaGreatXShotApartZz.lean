/- The given statement Rows.ShotApartSaid of YthkdflbnmbnbaaaGreat is proved. No condition. -/
import Derived.Test.YthkdflbnmbnbaaaGreatXShotApartCShotApart
import Derived.Test.YthkdflbnmbnbaaaGreatXShotApartP10k
namespace Go.Proofs.YthkdflbnmbnbaaaGreat
set_option linter.all false
open Go Go.Cat Go.Proofs
theorem shotApart_holds : Rows.ShotApartSaid := shotApart_row (shotApart_pure (fun x0 x1 o0 o1 => l_ShotApart x0 x1 o0 o1))
end Go.Proofs.YthkdflbnmbnbaaaGreat
