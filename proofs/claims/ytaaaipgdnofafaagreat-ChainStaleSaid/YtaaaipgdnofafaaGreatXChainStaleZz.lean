/- The given statement Rows.ChainStaleSaid of YtaaaipgdnofafaaGreat is proved. No condition. -/
import Derived.Test.YtaaaipgdnofafaaGreatXChainStaleCChainStale
import Derived.Test.YtaaaipgdnofafaaGreatXChainStaleP26x
namespace Go.Proofs.YtaaaipgdnofafaaGreat
set_option linter.all false
open Go Go.Cat Go.Proofs
theorem chainStale_holds : Rows.ChainStaleSaid := chainStale_row (chainStale_pure (fun x0 x1 x2 o0 o1 o2 => l_ChainStale x0 x1 x2 o0 o1 o2))
end Go.Proofs.YtaaaipgdnofafaaGreat
