/- The plain data of this seat as trees. No condition. -/
import Derived.Test.YthkdflbnmbnbaaaGreatXShotRightSp
import Derived.Test.YthkdflbnmbnbaaaGreatXShotRightTt
import Derived.Test.YthkdflbnmbnbaaaGreatXShotRightCatP5
import Derived.Test.YthkdflbnmbnbaaaGreatXShotRightCatP6
import Derived.Test.YthkdflbnmbnbaaaGreatXShotRightCatP4
import Derived.Test.YthkdflbnmbnbaaaGreatXShotRightSo
namespace Go.Proofs
set_option linter.all false
open Go Go.Cat
variable [M:Mono]
def c_law10_Act (x:law10_Act):List AV:=[(vu x.Do),(vu x.S.Kind),(vu x.S.A),(vu x.S.B),(vu x.S.N),(vu x.S.M),(.s (List.map cU8 x.S.Data)),(vu x.N)]
def c_api_Ent (x:api_Ent):List AV:=[(vs x.Name),(vi x.Ino),(vi x.Cookie)]
def c_api_Node (x:api_Node):List AV:=[(vi x.Ino),(vi x.Kind),(vi x.Links),(.s (List.map cU8 x.Data)),(.s (List.map c_api_Ent x.Ents)),(vi x.Up)]
def c_api_Past (x:api_Past):List AV:=[(vi x.From),(vi x.Till),(vi x.Node.Ino),(vi x.Node.Kind),(vi x.Node.Links),(.s (List.map cU8 x.Node.Data)),(.s (List.map c_api_Ent x.Node.Ents)),(vi x.Node.Up)]
def c_api_Shot (x:api_Shot):List AV:=[(vi x.Id),(vi x.Ino),(vi x.At)]
def c_struct_struct (x:struct_struct):List AV:=[]
def cL_c_law10_Act (l:List law10_Act):List AV:=[.s (List.map c_law10_Act l)]
def c_law07_Step (x:law07_Step):List AV:=[(vu x.Kind),(vu x.A),(vu x.B),(vu x.N),(vu x.M),(.s (List.map cU8 x.Data))]
def cL_cU8 (l:List UInt8):List AV:=[.s (List.map cU8 l)]
theorem Tryz.mixed:Tryz.prog.follows .mixedOrders=true:=by kernel_rfl
end Go.Proofs
