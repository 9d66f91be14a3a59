/- The given statement Rows.DiskRotSaid of Ytlhgbjgfnihijaa is proved. No condition. -/
import Derived.Test.YtlhgbjgfnihijaaXDiskRotCDiskRot
import Derived.Test.YtlhgbjgfnihijaaXDiskRotP04h
namespace Go.Proofs.Ytlhgbjgfnihijaa
set_option linter.all false
open Go Go.Cat Go.Proofs
theorem diskRot_holds : Rows.DiskRotSaid := diskRot_row (diskRot_pure (fun x0 x1 x2 x3 _ _ _ _ => l_DiskRot x0 x1 x2 x3))
end Go.Proofs.Ytlhgbjgfnihijaa
