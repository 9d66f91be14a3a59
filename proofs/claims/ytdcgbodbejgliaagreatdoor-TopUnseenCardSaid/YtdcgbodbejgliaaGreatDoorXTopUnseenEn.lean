/- The plain data of this seat as trees. No condition. -/
import Derived.Test.YtdcgbodbejgliaaGreatDoorXTopUnseenSp
import Derived.Test.YtdcgbodbejgliaaGreatDoorXTopUnseenTt
import Derived.Test.YtdcgbodbejgliaaGreatDoorXTopUnseenCatP5
import Derived.Test.YtdcgbodbejgliaaGreatDoorXTopUnseenCatP6
import Derived.Test.YtdcgbodbejgliaaGreatDoorXTopUnseenCatP4
import Derived.Test.YtdcgbodbejgliaaGreatDoorXTopUnseenCatP7
import Derived.Test.YtdcgbodbejgliaaGreatDoorXTopUnseenSo
open List renaming map → aU
namespace Go.Proofs
set_option linter.all false
open Go Go.Cat
variable [M:bK]
def Dm (x:bN):List AV:=[(vi x.τ),(vi x.aV),(vs x.cA),(vs x.To),(vi x.N),(vi x.M),(vi x.cd),(.s (aU dZ x.aC))]
def j5 (x:aN):List AV:=[(vs x.aM),(vi x.ι),(vi x.aj)]
def di (x:ξ):List AV:=[(vi x.ι),(vi x.τ),(vi x.bb),(.s (aU dZ x.aC)),(.s (aU j5 x.Ψ)),(vi x.Up)]
def sa (x:bp):List AV:=[(vi x.lS),(vi x.jb),(vi x.fg.ι),(vi x.fg.τ),(vi x.fg.bb),(.s (aU dZ x.fg.aC)),(.s (aU j5 x.fg.Ψ)),(vi x.fg.Up)]
def qP (x:bd):List AV:=[(vi x.Id),(vi x.ι),(vi x.At)]
def pZ (x:az):List AV:=[(vi x.aV),(vi x.cd),(vi x.ι)]
def mL (x:aA):List AV:=[(vi x.ι),(vi x.η),(vi x.As)]
def jq (x:eh):List AV:=[]
def akB (l:List bN):List AV:=[.s (aU Dm l)]
def akA (l:List UInt8):List AV:=[.s (aU dZ l)]
abbrev Tryz.bg:TypeId:=45
noncomputable def Tryz.zK:RF:=(tj 33 (Tryz.f133.body.getD .skip)).getD 0 ⟨#[],.skip,.skip,0⟩
theorem Tryz.mixed:Tryz.prog.follows .mixedOrders=true:=by kernel_rfl
end Go.Proofs
