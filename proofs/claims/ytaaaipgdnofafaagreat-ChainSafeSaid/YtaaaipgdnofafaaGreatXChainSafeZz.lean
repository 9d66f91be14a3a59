/- The given statement Rows.ChainSafeSaid of YtaaaipgdnofafaaGreat is proved. No condition. -/
import Derived.Test.YtaaaipgdnofafaaGreatXChainSafeCChainSafe
import Derived.Test.YtaaaipgdnofafaaGreatXChainSafeP26w
namespace Go.Proofs.YtaaaipgdnofafaaGreat
set_option linter.all false
open Go Go.Cat Go.Proofs
theorem chainSafe_holds : Rows.ChainSafeSaid := chainSafe_row (chainSafe_pure (fun x0 x1 o0 o1 => l_ChainSafe x0 x1 o0 o1))
end Go.Proofs.YtaaaipgdnofafaaGreat
