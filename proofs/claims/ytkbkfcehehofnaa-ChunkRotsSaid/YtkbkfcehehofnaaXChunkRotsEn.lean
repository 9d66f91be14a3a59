/- The plain data of this seat as trees. No condition. -/
import Derived.Test.YtkbkfcehehofnaaXChunkRotsSp
import Derived.Test.YtkbkfcehehofnaaXChunkRotsTt
import Derived.Test.YtkbkfcehehofnaaCatX
import Derived.Test.YtkbkfcehehofnaaCatc
import Derived.Test.YtkbkfcehehofnaaXChunkRotsKy
namespace Go.Proofs
set_option linter.all false
open Go Go.Cat
variable [M : Mono]

def c_api_Page (x : api_Page) : List AV := [(vi x.At), (.s (List.map cU8 x.Data))]
def cL_cU8 (l : List UInt8) : List AV := [.s (List.map cU8 l)]
def cL_c_api_Page (l : List api_Page) : List AV := [.s (List.map c_api_Page l)]
def c_api_Disk (x : api_Disk) : List AV := [(.s (List.map c_api_Page x.Synced)), (.s (List.map c_api_Page x.Loose)), (vb x.Down)]
def c_api_Copy (x : api_Copy) : List AV := [(vi x.Id), (vi x.Ver), (.s (List.map cU8 x.Data)), (.s (List.map Go.Cat.encI x.Sums))]
def cL_encI (l : List Int) : List AV := [.s (List.map Go.Cat.encI l)]
theorem Try.mixed : Try.prog.follows .mixedOrders = true := by kernel_rfl
end Go.Proofs
