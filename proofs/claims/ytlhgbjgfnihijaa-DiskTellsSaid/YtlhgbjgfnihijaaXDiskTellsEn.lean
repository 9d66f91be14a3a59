/- The plain data of this seat as trees. No condition. -/
import Derived.Test.YtlhgbjgfnihijaaXDiskTellsSp
import Derived.Test.YtlhgbjgfnihijaaXDiskTellsTt
import Derived.Test.YtlhgbjgfnihijaaCatP5
import Derived.Test.YtlhgbjgfnihijaaCatP6
import Derived.Test.YtlhgbjgfnihijaaXDiskTellsKy
namespace Go.Proofs
set_option linter.all false
open Go Go.Cat
variable [M : Mono]

def c_law04_Act (x : law04_Act) : List AV := [(vi x.Do), (vi x.At), (vi x.N), (.s (List.map cU8 x.Data))]
def c_api_Page (x : api_Page) : List AV := [(vi x.At), (.s (List.map cU8 x.Data))]
def cL_c_api_Page (l : List api_Page) : List AV := [.s (List.map c_api_Page l)]
def c_api_Disk (x : api_Disk) : List AV := [(.s (List.map c_api_Page x.Synced)), (.s (List.map c_api_Page x.Loose)), (vb x.Down)]
def cL_cU8 (l : List UInt8) : List AV := [.s (List.map cU8 l)]
def cL_c_law04_Act (l : List law04_Act) : List AV := [.s (List.map c_law04_Act l)]
theorem Try.mixed : Try.prog.follows .mixedOrders = true := by kernel_rfl
end Go.Proofs
