/- The plain data of this seat as trees. No condition. -/
import Derived.Test.YtpohijpdclienabGreatXScrubRotSp
import Derived.Test.YtpohijpdclienabGreatXScrubRotTt
import Derived.Test.YtpohijpdclienabGreatXScrubRotCatP5
import Derived.Test.YtpohijpdclienabGreatXScrubRotCatP6
import Derived.Test.YtpohijpdclienabGreatXScrubRotCatP4
import Derived.Test.YtpohijpdclienabGreatXScrubRotSo
import Derived.Test.YtpohijpdclienabGreatXScrubRotKy
namespace Go.Proofs
set_option linter.all false
open Go Go.Cat
variable [M : Mono]
def c_api_Page (x : api_Page) : List AV := [(vi x.At), (.s (List.map cU8 x.Data))]
def cL_cU8 (l : List UInt8) : List AV := [.s (List.map cU8 l)]
def cL_c_api_Page (l : List api_Page) : List AV := [.s (List.map c_api_Page l)]
def c_api_Disk (x : api_Disk) : List AV := [(.s (List.map c_api_Page x.Synced)), (.s (List.map c_api_Page x.Loose)), (vb x.Down)]
def c_api_Find (x : api_Find) : List AV := [(vi x.Id), (vi x.Server), (vi x.What)]
def c_api_Chain (x : api_Chain) : List AV := [(vi x.Id), (vi x.Ver), (.s (List.map Go.Cat.encI x.Servers))]
def c_api_Job (x : api_Job) : List AV := [(vi x.Id), (vi x.Ver), (vi x.From), (vi x.To), (vi x.Have), (vi x.Left)]
noncomputable def Tryz.rf8_0 : RF := (rfs 24 (Tryz.f8.body.getD .skip)).getD 0 ⟨#[], .skip, .skip, 0⟩
noncomputable def Tryz.rf9_0 : RF := (rfs 20 (Tryz.f9.body.getD .skip)).getD 0 ⟨#[], .skip, .skip, 0⟩
theorem Tryz.mixed : Tryz.prog.follows .mixedOrders = true := by kernel_rfl
end Go.Proofs
