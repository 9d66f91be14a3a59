/- The plain data of this seat as trees. No condition. -/
import Derived.Test.YtdcgbodbejgliaaGreatDoorXTopPacksSp
import Derived.Test.YtdcgbodbejgliaaGreatDoorXTopPacksCatP7
import Derived.Test.YtdcgbodbejgliaaGreatDoorXTopPacksSo
open List renaming map → aT
namespace Go.Proofs
set_option linter.all false
open Go Go.Cat
variable [M:cM]
def Du (x:bN):List AV:=[(vi x.τ),(vi x.aW),(vs x.cF),(vs x.To),(vi x.N),(vi x.M),(vi x.bY),(.s (aT dD x.az))]
def j8 (x:aP):List AV:=[(vs x.aN),(vi x.κ),(vi x.aj)]
def dv (x:ξ):List AV:=[(vi x.κ),(vi x.τ),(vi x.a_),(.s (aT dD x.az)),(.s (aT j8 x.Ω)),(vi x.Up)]
def sx (x:bp):List AV:=[(vi x.kG),(vi x.iA),(vi x.eL.κ),(vi x.eL.τ),(vi x.eL.a_),(.s (aT dD x.eL.az)),(.s (aT j8 x.eL.Ω)),(vi x.eL.Up)]
def qV (x:bb):List AV:=[(vi x.Id),(vi x.κ),(vi x.At)]
def p_ (x:ay):List AV:=[(vi x.aW),(vi x.bY),(vi x.κ)]
def mN (x:aA):List AV:=[(vi x.κ),(vi x.η),(vi x.vN)]
def jv (x:ei):List AV:=[]
def alc (l:List bN):List AV:=[.s (aT Du l)]
def alb (l:List UInt8):List AV:=[.s (aT dD l)]
abbrev Tryz.bf:TypeId:=45
noncomputable def Tryz.zV:RF:=(tE 33 (Tryz.f133.body.getD .skip)).getD 0 ⟨#[],.skip,.skip,0⟩
theorem Tryz.mixed:Tryz.prog.follows .mixedOrders=true:=by kernel_rfl
end Go.Proofs
