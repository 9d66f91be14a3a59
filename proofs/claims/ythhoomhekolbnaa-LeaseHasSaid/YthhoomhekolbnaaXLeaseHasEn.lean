/- The plain data of this seat as trees. No condition. -/
import Derived.Test.YthhoomhekolbnaaXLeaseHasSp
import Derived.Test.YthhoomhekolbnaaXLeaseHasTt
import Derived.Test.YthhoomhekolbnaaCatP5
import Derived.Test.YthhoomhekolbnaaCatP6
import Derived.Test.YthhoomhekolbnaaCatP4
import Derived.Test.YthhoomhekolbnaaXLeaseHasSo
import Derived.Test.YthhoomhekolbnaaXLeaseHasKy
namespace Go.Proofs
set_option linter.all false
open Go Go.Cat
variable [M : Mono]

def c_api_Lease (x : api_Lease) : List AV := [(vi x.Client), (vi x.Ino), (vi x.Kind), (vi x.Span.From), (vi x.Span.To), (vi x.Until), (vi x.Epoch)]
def c_api_Span (x : api_Span) : List AV := [(vi x.From), (vi x.To)]
def c_span_edge (x : span_edge) : List AV := [(vi x.at_), (vi x.set_), (vb x.begins_)]
def cL_c_api_Lease (l : List api_Lease) : List AV := [.s (List.map c_api_Lease l)]
def c_law22_Step (x : law22_Step) : List AV := [(vi x.Do), (vi x.Many), (vi x.Q.Client), (vi x.Q.Ino), (vi x.Q.Kind), (vi x.Q.Span.From), (vi x.Q.Span.To), (vi x.Q.Until), (vi x.Q.Epoch)]
def cL_c_law22_Step (l : List law22_Step) : List AV := [.s (List.map c_law22_Step l)]
def cL_c_u16 (l : List Int) : List AV := [.s (List.map c_u16 l)]
theorem Try.mixed : Try.prog.follows .mixedOrders = true := by kernel_rfl
end Go.Proofs
