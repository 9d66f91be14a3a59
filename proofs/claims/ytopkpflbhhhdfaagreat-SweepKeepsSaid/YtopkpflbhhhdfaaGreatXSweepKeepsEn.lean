/- The plain data of this seat as trees. No condition. -/
import Derived.Test.YtopkpflbhhhdfaaGreatXSweepKeepsSp
import Derived.Test.YtopkpflbhhhdfaaGreatXSweepKeepsTt
import Derived.Test.YtopkpflbhhhdfaaGreatCatP5
import Derived.Test.YtopkpflbhhhdfaaGreatCatP6
import Derived.Test.YtopkpflbhhhdfaaGreatCatP4
import Derived.Test.YtopkpflbhhhdfaaGreatXSweepKeepsKy
namespace Go.Proofs
set_option linter.all false
open Go Go.Cat
variable [M : Mono]

def c_api_Named (x : api_Named) : List AV := [(vi x.Ino), (vi x.Shot), (vi x.Page), (vi x.Id)]
def c_api_Room (x : api_Room) : List AV := [(vi x.Id), (vi x.Ino), (vi x.Client)]
def c_api_Lease (x : api_Lease) : List AV := [(vi x.Client), (vi x.Ino), (vi x.Kind), (vi x.Span.From), (vi x.Span.To), (vi x.Until), (vi x.Epoch)]
def c_api_Page (x : api_Page) : List AV := [(vi x.At), (.s (List.map cU8 x.Data))]
def c_api_Disk (x : api_Disk) : List AV := [(.s (List.map c_api_Page x.Synced)), (.s (List.map c_api_Page x.Loose)), (vb x.Down)]
def cL_cU8 (l : List UInt8) : List AV := [.s (List.map cU8 l)]
def cL_c_api_Page (l : List api_Page) : List AV := [.s (List.map c_api_Page l)]
def c_api_Chain (x : api_Chain) : List AV := [(vi x.Id), (vi x.Ver), (.s (List.map Go.Cat.encI x.Servers))]
def c_law29_Set (x : law29_Set) : List AV := [(.s (List.map c_api_Named x.Named)), (.s (List.map c_api_Room x.Rooms)), (.s (List.map c_api_Lease x.Leases)), (.s (List.map c_api_Disk x.Disks))]
def cL_c_api_Named (l : List api_Named) : List AV := [.s (List.map c_api_Named l)]
def cL_c_api_Room (l : List api_Room) : List AV := [.s (List.map c_api_Room l)]
def cL_c_api_Lease (l : List api_Lease) : List AV := [.s (List.map c_api_Lease l)]
def c_api_Span (x : api_Span) : List AV := [(vi x.From), (vi x.To)]
def cL_c_api_Disk (l : List api_Disk) : List AV := [.s (List.map c_api_Disk l)]
theorem Tryz.mixed : Tryz.prog.follows .mixedOrders = true := by kernel_rfl
end Go.Proofs
