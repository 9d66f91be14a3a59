/- The given statement Rows.MendTwiceSaid of Ytcbpphgndncebaa is proved. No condition. -/
import Derived.Test.YtcbpphgndncebaaXMendTwiceCMendTwice
import Derived.Test.YtcbpphgndncebaaXMendTwiceP28d
namespace Go.Proofs.Ytcbpphgndncebaa
set_option linter.all false
open Go Go.Cat Go.Proofs
theorem mendTwice_holds : Rows.MendTwiceSaid := mendTwice_row (mendTwice_pure (fun x0 x1 x2 o0 o1 o2 => l_MendTwice x0 x1 x2 o0 o1 o2))
end Go.Proofs.Ytcbpphgndncebaa
