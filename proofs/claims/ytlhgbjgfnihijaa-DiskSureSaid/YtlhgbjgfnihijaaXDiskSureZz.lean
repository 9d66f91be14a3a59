/- The given statement Rows.DiskSureSaid of Ytlhgbjgfnihijaa is proved. No condition. -/
import Derived.Test.YtlhgbjgfnihijaaXDiskSureCDiskSure
import Derived.Test.YtlhgbjgfnihijaaXDiskSureP04d
namespace Go.Proofs.Ytlhgbjgfnihijaa
set_option linter.all false
open Go Go.Cat Go.Proofs
theorem diskSure_holds : Rows.DiskSureSaid := diskSure_row (diskSure_pure (fun x0 x1 x2 _ _ _ => l_DiskSure x0 x1 x2))
end Go.Proofs.Ytlhgbjgfnihijaa
