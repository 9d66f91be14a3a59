/- The given statement Rows.MendWholeSaid of YtcbpphgndncebabGreat is proved. No condition. -/
import Derived.Test.YtcbpphgndncebabGreatXMendWholeCMendWhole
import Derived.Test.YtcbpphgndncebabGreatXMendWholeP280I
namespace Go.Proofs.YtcbpphgndncebabGreat
set_option linter.all false
open Go Go.Cat Go.Proofs
theorem mendWhole_holds : Rows.MendWholeSaid := mendWhole_row (mendWhole_pure (fun x0 x1 x2 o0 o1 o2 => l_MendWhole x0 x1 x2 o0 o1 o2))
end Go.Proofs.YtcbpphgndncebabGreat
