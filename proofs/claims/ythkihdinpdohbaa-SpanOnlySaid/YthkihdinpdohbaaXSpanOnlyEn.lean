/- The plain data of this seat as trees. No condition. -/
import Derived.Test.YthkihdinpdohbaaXSpanOnlySp
import Derived.Test.YthkihdinpdohbaaXSpanOnlyTt
import Derived.Test.YthkihdinpdohbaaCatX
import Derived.Test.YthkihdinpdohbaaCat4
import Derived.Test.YthkihdinpdohbaaXSpanOnlySo
namespace Go.Proofs
set_option linter.all false
open Go Go.Cat

def c_api_Span (x : api_Span) : List AV := [(vi x.From), (vi x.To)]
def c_span_edge (x : span_edge) : List AV := [(vi x.at_), (vi x.set_), (vb x.begins_)]
def cL_c_api_Span (l : List api_Span) : List AV := [.s (List.map c_api_Span l)]
theorem Try.mixed : Try.prog.follows .mixedOrders = true := by kernel_rfl
end Go.Proofs
