/- The given statement Rows.DiskFirstSaid of Ytlhgbjgfnihijaa is proved. No condition. -/
import Derived.Test.YtlhgbjgfnihijaaXDiskFirstCDiskFirst
import Derived.Test.YtlhgbjgfnihijaaXDiskFirstP04f
namespace Go.Proofs.Ytlhgbjgfnihijaa
set_option linter.all false
open Go Go.Cat Go.Proofs
theorem diskFirst_holds : Rows.DiskFirstSaid := diskFirst_row (diskFirst_pure (fun x0 x1 x2 x3 _ _ _ _ => l_DiskFirst x0 x1 x2 x3))
end Go.Proofs.Ytlhgbjgfnihijaa
