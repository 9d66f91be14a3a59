/- The given statement Rows.ChainMakesSaid of YtaaaipgdnofafaaGreat is proved. No condition. -/
import Derived.Test.YtaaaipgdnofafaaGreatXChainMakesCChainMakes
import Derived.Test.YtaaaipgdnofafaaGreatXChainMakesP26s
namespace Go.Proofs.YtaaaipgdnofafaaGreat
set_option linter.all false
open Go Go.Cat Go.Proofs
theorem chainMakes_holds : Rows.ChainMakesSaid := chainMakes_row (chainMakes_pure (fun x0 x1 x2 x3 x4 o0 o1 o2 o3 o4 => l_ChainMakes x0 x1 x2 x3 x4 o0 o1 o2 o3 o4))
end Go.Proofs.YtaaaipgdnofafaaGreat
