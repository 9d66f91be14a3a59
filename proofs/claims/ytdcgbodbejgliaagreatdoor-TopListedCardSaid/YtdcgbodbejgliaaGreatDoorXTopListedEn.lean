/- The plain data of this seat as trees. No condition. -/
import Derived.Test.YtdcgbodbejgliaaGreatDoorXTopListedSp
import Derived.Test.YtdcgbodbejgliaaGreatDoorXTopListedCatP7
import Derived.Test.YtdcgbodbejgliaaGreatDoorXTopListedSo
open List renaming map → bY
namespace Go.Proofs
set_option linter.all false
open Go Go.Cat
variable [M:bU]
def zR (x:dP):List AV:=[(vi x.Ω),(vi x.fZ),(vs x.ia),(vs x.To),(vi x.N),(vi x.M),(vi x.iO),(.s (bY du x.aP))]
def eM (x:aJ):List AV:=[(vs x.aR),(vi x.κ),(vi x.ar)]
def ed (x:ψ):List AV:=[(vi x.κ),(vi x.Ω),(vi x.a_),(.s (bY du x.aP)),(.s (bY eM x.ae)),(vi x.Up)]
def ll (x:bV):List AV:=[(vi x.qY),(vi x.q7),(vi x.p9.κ),(vi x.p9.Ω),(vi x.p9.a_),(.s (bY du x.p9.aP)),(.s (bY eM x.p9.ae)),(vi x.p9.Up)]
def qd (x:cw):List AV:=[(vi x.Id),(vi x.κ),(vi x.At)]
def ga (x:bq):List AV:=[(vi x.fZ),(vi x.iO),(vi x.κ)]
def gr (x:aU):List AV:=[(vi x.κ),(vi x.ι),(vi x.C0)]
def agI (l:List dP):List AV:=[.s (bY zR l)]
def agH (l:List UInt8):List AV:=[.s (bY du l)]
abbrev Tryz.eB:TypeId:=45
noncomputable def Tryz.wz:RF:=(qJ 33 (Tryz.f133.body.getD .skip)).getD 0 ⟨#[],.skip,.skip,0⟩
theorem Tryz.mixed:Tryz.prog.follows .mixedOrders=true:=by kernel_rfl
end Go.Proofs
