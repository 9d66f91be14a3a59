/- The given statement Rows.MendDoesSaid of YtcbpphgndncebabGreat is proved. No condition. -/
import Derived.Test.YtcbpphgndncebabGreatXMendDoesCMendDoes
import Derived.Test.YtcbpphgndncebabGreatXMendDoesP280F
namespace Go.Proofs.YtcbpphgndncebabGreat
set_option linter.all false
open Go Go.Cat Go.Proofs
theorem mendDoes_holds : Rows.MendDoesSaid := mendDoes_row (mendDoes_pure (fun x0 x1 x2 x3 o0 o1 o2 o3 => l_MendDoes x0 x1 x2 x3 o0 o1 o2 o3))
end Go.Proofs.YtcbpphgndncebabGreat
