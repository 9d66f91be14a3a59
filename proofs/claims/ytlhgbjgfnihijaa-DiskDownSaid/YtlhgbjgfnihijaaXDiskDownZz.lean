/- The given statement Rows.DiskDownSaid of Ytlhgbjgfnihijaa is proved. No condition. -/
import Derived.Test.YtlhgbjgfnihijaaXDiskDownCDiskDown
import Derived.Test.YtlhgbjgfnihijaaXDiskDownP04e
namespace Go.Proofs.Ytlhgbjgfnihijaa
set_option linter.all false
open Go Go.Cat Go.Proofs
theorem diskDown_holds : Rows.DiskDownSaid := diskDown_row (diskDown_pure (fun x0 x1 x2 x3 _ _ _ _ => l_DiskDown x0 x1 x2 x3))
end Go.Proofs.Ytlhgbjgfnihijaa
