/- The given statement Rows.ChainAllSaid of YtaaaipgdnofafaaGreat is proved. No condition. -/
import Derived.Test.YtaaaipgdnofafaaGreatXChainAllCChainAll
import Derived.Test.YtaaaipgdnofafaaGreatXChainAllP26z
namespace Go.Proofs.YtaaaipgdnofafaaGreat
set_option linter.all false
open Go Go.Cat Go.Proofs
theorem chainAll_holds : Rows.ChainAllSaid := chainAll_row (chainAll_pure (fun x0 x1 x2 x3 o0 o1 o2 o3 => l_ChainAll x0 x1 x2 x3 o0 o1 o2 o3))
end Go.Proofs.YtaaaipgdnofafaaGreat
