/- The given statement Rows.DiskTellsSaid of Ytlhgbjgfnihijaa is proved. No condition. -/
import Derived.Test.YtlhgbjgfnihijaaXDiskTellsCDiskTells
import Derived.Test.YtlhgbjgfnihijaaXDiskTellsP04j
namespace Go.Proofs.Ytlhgbjgfnihijaa
set_option linter.all false
open Go Go.Cat Go.Proofs
theorem diskTells_holds : Rows.DiskTellsSaid := diskTells_row (diskTells_pure (fun x0 x1 x2 o0 o1 o2 => l_DiskTells x0 x1 x2 o0 o1 o2))
end Go.Proofs.Ytlhgbjgfnihijaa
