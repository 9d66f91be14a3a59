/- Chains, plain: what is cut, and patched. No condition. -/
import Derived.Test.YtaaaipgdnofafaaGreatXChainMakesP26p
namespace Go.Proofs
set_option linter.all false
open Go Go.Cat
set_option linter.all false
section
variable {c : api_Chain} {D : List api_Disk} {n : Nat}
noncomputable def goesB (D : List api_Disk) (sv s : Int) : Bool := s == sv || (atS D s).Down
noncomputable def restC (c : api_Chain) (D : List api_Disk) (sv : Int) : List Int := c.Servers.filter fun s => !goesB D sv s
noncomputable def cutC (c : api_Chain) (D : List api_Disk) (sv : Int) : api_Chain × List api_Disk × Int :=
 if sv ∉ c.Servers then (c, D, 1) else if c.Ver ≥ 1099511627776 then (c, D, 76) else
 if (firstC ⟨c.Id, c.Ver, restC c D sv⟩ D).2 = false then (c, D, 260) else (⟨c.Id, c.Ver + 1, restC c D sv⟩, layAll (newC c.Id (c.Ver + 1) (firstC ⟨c.Id, c.Ver, restC c D sv⟩ D).1) D (restC c D sv), 0)
theorem ChD.rest (h : ChD c D n) (v sv : Int) : ChD ⟨c.Id, v, restC c D sv⟩ D n := ⟨h.f, fun s hs => h.s s (List.mem_filter.1 hs).1, Nat.le_trans (List.length_filter_le _ _) h.n⟩
noncomputable def firstL (c : api_Chain) (D : List api_Disk) (l : List Int) : List UInt8 × Bool := match l.find? (wholeB c D) with
 | some s => (dataS c D s, true)
 | none => ([], false)
end
end Go.Proofs
