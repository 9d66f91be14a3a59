/- The plain data of this seat as trees. No condition. -/
import Derived.Test.YtdcgbodbejgliaaGreatDoorXTopClientsSp
import Derived.Test.YtdcgbodbejgliaaGreatDoorXTopClientsTt
import Derived.Test.YtdcgbodbejgliaaGreatDoorXTopClientsCatP5
import Derived.Test.YtdcgbodbejgliaaGreatDoorXTopClientsCatP6
import Derived.Test.YtdcgbodbejgliaaGreatDoorXTopClientsCatP4
import Derived.Test.YtdcgbodbejgliaaGreatDoorXTopClientsCatP7
import Derived.Test.YtdcgbodbejgliaaGreatDoorXTopClientsSo
open List renaming map → aT
namespace Go.Proofs
set_option linter.all false
open Go Go.Cat
variable [M:bM]
def Dw (x:bF):List AV:=[(vi x.ξ),(vi x.aL),(vs x.cm),(vs x.To),(vi x.N),(vi x.M),(vi x.bq),(.s (aT dZ x.aC))]
def j7 (x:aO):List AV:=[(vs x.aN),(vi x.ι),(vi x.aj)]
def dh (x:τ):List AV:=[(vi x.ι),(vi x.ξ),(vi x.aZ),(.s (aT dZ x.aC)),(.s (aT j7 x.Ψ)),(vi x.Up)]
def sD (x:br):List AV:=[(vi x.lS),(vi x.i_),(vi x.fj.ι),(vi x.fj.ξ),(vi x.fj.aZ),(.s (aT dZ x.fj.aC)),(.s (aT j7 x.fj.Ψ)),(vi x.fj.Up)]
def q7 (x:bd):List AV:=[(vi x.Id),(vi x.ι),(vi x.At)]
def p9 (x:ay):List AV:=[(vi x.aL),(vi x.bq),(vi x.ι)]
def mL (x:aA):List AV:=[(vi x.ι),(vi x.η),(vi x.AI)]
def jv (x:ee):List AV:=[]
def akL (l:List bF):List AV:=[.s (aT Dw l)]
def akK (l:List UInt8):List AV:=[.s (aT dZ l)]
abbrev Tryz.bh:TypeId:=45
noncomputable def Tryz.zT:RF:=(tL 33 (Tryz.f133.body.getD .skip)).getD 0 ⟨#[],.skip,.skip,0⟩
theorem Tryz.mixed:Tryz.prog.follows .mixedOrders=true:=by kernel_rfl
end Go.Proofs
