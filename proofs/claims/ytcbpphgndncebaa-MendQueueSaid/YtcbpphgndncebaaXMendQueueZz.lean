/- The given statement Rows.MendQueueSaid of Ytcbpphgndncebaa is proved. No condition. -/
import Derived.Test.YtcbpphgndncebaaXMendQueueCMendQueue
import Derived.Test.YtcbpphgndncebaaXMendQueueP28d
namespace Go.Proofs.Ytcbpphgndncebaa
set_option linter.all false
open Go Go.Cat Go.Proofs
theorem mendQueue_holds : Rows.MendQueueSaid := mendQueue_row (mendQueue_pure (fun x0 x1 o0 o1 => l_MendQueue x0 x1 o0 o1))
end Go.Proofs.Ytcbpphgndncebaa
