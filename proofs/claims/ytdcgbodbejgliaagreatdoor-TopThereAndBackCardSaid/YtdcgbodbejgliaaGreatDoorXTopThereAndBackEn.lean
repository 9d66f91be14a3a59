/- The plain data of this seat as trees. No condition. -/
import Derived.Test.YtdcgbodbejgliaaGreatDoorXTopThereAndBackSp
import Derived.Test.YtdcgbodbejgliaaGreatDoorXTopThereAndBackCatP7
import Derived.Test.YtdcgbodbejgliaaGreatDoorXTopThereAndBackSo
open List renaming map->cK
namespace Go.Proofs
set_option linter.all false
open Go Go.Cat
variable[M:cD]
def CS(x:dO):List AV:=[(vi x.θ),(vi x.gp),(vs x.ib),(vs x.To),(vi x.N),(vi x.M),(vi x.iR),(.s (cK dV x.aK))]
def fB(x:aH):List AV:=[(vs x.aC),(vi x.κ),(vi x.ai)]
def eM(x:τ):List AV:=[(vi x.κ),(vi x.θ),(vi x.a_),(.s (cK dV x.aK)),(.s (cK fB x.ψ)),(vi x.Up)]
def mQ(x:cq):List AV:=[(vi x.th),(vi x.tp),(vi x.rS.κ),(vi x.rS.θ),(vi x.rS.a_),(.s (cK dV x.rS.aK)),(.s (cK fB x.rS.ψ)),(vi x.rS.Up)]
def rX(x:cG):List AV:=[(vi x.Id),(vi x.κ),(vi x.At)]
def gX(x:bg):List AV:=[(vi x.gp),(vi x.iR),(vi x.κ)]
def il(x:aJ):List AV:=[(vi x.κ),(vi x.η),(vi x.uO)]
def akm(l:List dO):List AV:=[.s (cK CS l)]
def akl(l:List UInt8):List AV:=[.s (cK dV l)]
abbrev Tryz.eI:TypeId:=45
noncomputable def Tryz.zg:RF:=(sQ 33 (Tryz.f133.body.getD .skip)).getD 0 ⟨#[],.skip,.skip,0⟩
theorem Tryz.mixed:Tryz.prog.follows .mixedOrders=true:=by kernel_rfl
end Go.Proofs
