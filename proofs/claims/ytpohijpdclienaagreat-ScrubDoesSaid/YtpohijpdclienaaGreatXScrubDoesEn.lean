/- The plain data of this seat as trees. No condition. -/
import Derived.Test.YtpohijpdclienaaGreatXScrubDoesSp
import Derived.Test.YtpohijpdclienaaGreatXScrubDoesTt
import Derived.Test.YtpohijpdclienaaGreatXScrubDoesCatP5
import Derived.Test.YtpohijpdclienaaGreatXScrubDoesCatP6
import Derived.Test.YtpohijpdclienaaGreatXScrubDoesCatP4
import Derived.Test.YtpohijpdclienaaGreatXScrubDoesSo
import Derived.Test.YtpohijpdclienaaGreatXScrubDoesKy
namespace Go.Proofs
set_option linter.all false
open Go Go.Cat
variable [M : Mono]
def c_api_Page (x : api_Page) : List AV := [(vi x.At), (.s (List.map cU8 x.Data))]
def c_api_Disk (x : api_Disk) : List AV := [(.s (List.map c_api_Page x.Synced)), (.s (List.map c_api_Page x.Loose)), (vb x.Down)]
def c_api_Chain (x : api_Chain) : List AV := [(vi x.Id), (vi x.Ver), (.s (List.map Go.Cat.encI x.Servers))]
def cL_cU8 (l : List UInt8) : List AV := [.s (List.map cU8 l)]
def cL_c_api_Page (l : List api_Page) : List AV := [.s (List.map c_api_Page l)]
def c_api_Find (x : api_Find) : List AV := [(vi x.Id), (vi x.Server), (vi x.What)]
def c_api_Job (x : api_Job) : List AV := [(vi x.Id), (vi x.Ver), (vi x.From), (vi x.To), (vi x.Have), (vi x.Left)]
def cL_c_api_Disk (l : List api_Disk) : List AV := [.s (List.map c_api_Disk l)]
def cL_c_api_Chain (l : List api_Chain) : List AV := [.s (List.map c_api_Chain l)]
def cL_encI (l : List Int) : List AV := [.s (List.map Go.Cat.encI l)]
noncomputable def Tryz.rf14_0 : RF := (rfs 20 (Tryz.f14.body.getD .skip)).getD 0 ⟨#[], .skip, .skip, 0⟩
noncomputable def Tryz.rf17_0 : RF := (rfs 24 (Tryz.f17.body.getD .skip)).getD 0 ⟨#[], .skip, .skip, 0⟩
theorem Tryz.mixed : Tryz.prog.follows .mixedOrders = true := by kernel_rfl
end Go.Proofs
