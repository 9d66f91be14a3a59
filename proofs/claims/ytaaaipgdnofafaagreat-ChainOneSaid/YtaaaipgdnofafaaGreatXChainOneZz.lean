/- The given statement Rows.ChainOneSaid of YtaaaipgdnofafaaGreat is proved. No condition. -/
import Derived.Test.YtaaaipgdnofafaaGreatXChainOneCChainOne
import Derived.Test.YtaaaipgdnofafaaGreatXChainOneP26y
namespace Go.Proofs.YtaaaipgdnofafaaGreat
set_option linter.all false
open Go Go.Cat Go.Proofs
theorem chainOne_holds : Rows.ChainOneSaid := chainOne_row (chainOne_pure (fun x0 x1 x2 o0 o1 o2 => l_ChainOne x0 x1 x2 o0 o1 o2))
end Go.Proofs.YtaaaipgdnofafaaGreat
