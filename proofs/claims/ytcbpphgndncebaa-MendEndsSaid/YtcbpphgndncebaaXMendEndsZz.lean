/- The given statement Rows.MendEndsSaid of Ytcbpphgndncebaa is proved. No condition. -/
import Derived.Test.YtcbpphgndncebaaXMendEndsCMendEnds
import Derived.Test.YtcbpphgndncebaaXMendEndsP28d
namespace Go.Proofs.Ytcbpphgndncebaa
set_option linter.all false
open Go Go.Cat Go.Proofs
theorem mendEnds_holds : Rows.MendEndsSaid := mendEnds_row (mendEnds_pure (fun x0 x1 o0 o1 => l_MendEnds x0 x1 o0 o1))
end Go.Proofs.Ytcbpphgndncebaa
