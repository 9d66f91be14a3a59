/- The given statement Rows.ChainTellsSaid of YtaaaipgdnofafaaGreat is proved. No condition. -/
import Derived.Test.YtaaaipgdnofafaaGreatXChainTellsCChainTells
import Derived.Test.YtaaaipgdnofafaaGreatXChainTellsP26x
namespace Go.Proofs.YtaaaipgdnofafaaGreat
set_option linter.all false
open Go Go.Cat Go.Proofs
theorem chainTells_holds : Rows.ChainTellsSaid := chainTells_row (chainTells_pure (fun x0 x1 x2 x3 o0 o1 o2 o3 => l_ChainTells x0 x1 x2 x3 o0 o1 o2 o3))
end Go.Proofs.YtaaaipgdnofafaaGreat
