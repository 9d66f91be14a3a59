/- The plain data of this seat as trees. No condition. -/
import Derived.Test.YtcbpphgndncebaaXMendRenewsSp
import Derived.Test.YtcbpphgndncebaaXMendRenewsTt
import Derived.Test.YtcbpphgndncebaaCatX
import Derived.Test.YtcbpphgndncebaaCat8
import Derived.Test.YtcbpphgndncebaaXMendRenewsSo
namespace Go.Proofs
set_option linter.all false
open Go Go.Cat

def c_api_Job (x : api_Job) : List AV := [(vi x.Id), (vi x.Ver), (vi x.From), (vi x.To), (vi x.Have), (vi x.Left)]
def cL_c_api_Job (l : List api_Job) : List AV := [.s (List.map c_api_Job l)]
theorem Try.mixed : Try.prog.follows .mixedOrders = true := by kernel_rfl
end Go.Proofs
