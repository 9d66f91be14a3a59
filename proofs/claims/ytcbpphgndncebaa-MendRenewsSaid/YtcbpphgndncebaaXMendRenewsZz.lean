/- The given statement Rows.MendRenewsSaid of Ytcbpphgndncebaa is proved. No condition. -/
import Derived.Test.YtcbpphgndncebaaXMendRenewsCMendRenews
import Derived.Test.YtcbpphgndncebaaXMendRenewsP28e
namespace Go.Proofs.Ytcbpphgndncebaa
set_option linter.all false
open Go Go.Cat Go.Proofs
theorem mendRenews_holds : Rows.MendRenewsSaid := mendRenews_row (mendRenews_pure (fun x0 x1 x2 o0 o1 o2 => l_MendRenews x0 x1 x2 o0 o1 o2))
end Go.Proofs.Ytcbpphgndncebaa
