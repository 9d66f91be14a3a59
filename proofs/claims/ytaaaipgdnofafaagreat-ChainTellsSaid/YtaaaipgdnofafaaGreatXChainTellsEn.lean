/- The plain data of this seat as trees. No condition. -/
import Derived.Test.YtaaaipgdnofafaaGreatXChainTellsSp
import Derived.Test.YtaaaipgdnofafaaGreatXChainTellsTt
import Derived.Test.YtaaaipgdnofafaaGreatXChainTellsCatP5
import Derived.Test.YtaaaipgdnofafaaGreatXChainTellsCatP6
import Derived.Test.YtaaaipgdnofafaaGreatXChainTellsCatP4
import Derived.Test.YtaaaipgdnofafaaGreatXChainTellsKy
namespace Go.Proofs
set_option linter.all false
open Go Go.Cat
variable [M:Mono]
def c_api_Page (x:api_Page):List AV:=[(vi x.At),(.s (List.map cU8 x.Data))]
def c_api_Disk (x:api_Disk):List AV:=[(.s (List.map c_api_Page x.Synced)),(.s (List.map c_api_Page x.Loose)),(vb x.Down)]
def cL_cU8 (l:List UInt8):List AV:=[.s (List.map cU8 l)]
def cL_c_api_Page (l:List api_Page):List AV:=[.s (List.map c_api_Page l)]
def cL_encI (l:List Int):List AV:=[.s (List.map Go.Cat.encI l)]
def c_law26_Act (x:law26_Act):List AV:=[(vu x.Do),(vu x.Who),(.v (.int .u16 x.N))]
def cL_c_law26_Act (l:List law26_Act):List AV:=[.s (List.map c_law26_Act l)]
noncomputable def Tryz.rf19_0:RF:=(rfs 17 (Tryz.f19.body.getD .skip)).getD 0 ⟨#[],.skip,.skip,0⟩
noncomputable def Tryz.rf27_0:RF:=(rfs 64 (Tryz.f27.body.getD .skip)).getD 0 ⟨#[],.skip,.skip,0⟩
noncomputable def Tryz.rf53_0:RF:=(rfs 14 (Tryz.f53.body.getD .skip)).getD 0 ⟨#[],.skip,.skip,0⟩
theorem Tryz.mixed:Tryz.prog.follows .mixedOrders=true:=by kernel_rfl
end Go.Proofs
