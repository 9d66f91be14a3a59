/- The given statement Rows.DiskWrittenSaid of Ytlhgbjgfnihijaa is proved. No condition. -/
import Derived.Test.YtlhgbjgfnihijaaXDiskWrittenCDiskWritten
import Derived.Test.YtlhgbjgfnihijaaXDiskWrittenP04d
namespace Go.Proofs.Ytlhgbjgfnihijaa
set_option linter.all false
open Go Go.Cat Go.Proofs
theorem diskWritten_holds : Rows.DiskWrittenSaid := diskWritten_row (diskWritten_pure (fun x0 x1 x2 x3 _ _ _ _ => l_DiskWritten x0 x1 x2 x3))
end Go.Proofs.Ytlhgbjgfnihijaa
