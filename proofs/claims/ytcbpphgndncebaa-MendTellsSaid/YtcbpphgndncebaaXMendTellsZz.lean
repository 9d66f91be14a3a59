/- The given statement Rows.MendTellsSaid of Ytcbpphgndncebaa is proved. No condition. -/
import Derived.Test.YtcbpphgndncebaaXMendTellsCMendTells
import Derived.Test.YtcbpphgndncebaaXMendTellsP28d
namespace Go.Proofs.Ytcbpphgndncebaa
set_option linter.all false
open Go Go.Cat Go.Proofs
theorem mendTells_holds : Rows.MendTellsSaid := mendTells_row (mendTells_pure (fun x0 x1 x2 o0 o1 o2 => l_MendTells x0 x1 x2 o0 o1 o2))
end Go.Proofs.Ytcbpphgndncebaa
