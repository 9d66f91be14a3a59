/- Chains, plain: what is patched. No condition. -/
import Derived.Test.YtaaaipgdnofafaaGreatXChainMakesP26q
namespace Go.Proofs
set_option linter.all false
open Go Go.Cat
set_option linter.all false
section
variable {c : api_Chain} {D : List api_Disk} {n : Nat}
noncomputable def fromC (c : api_Chain) (D : List api_Disk) (k : Nat) : Option Int := ((c.Servers.drop (k + 1)).find? (wholeB c D)).or ((c.Servers.take k).reverse.find? (wholeB c D))
noncomputable def patchC (c : api_Chain) (D : List api_Disk) (sv : Int) : List api_Disk × Int :=
 match c.Servers.findIdx? (fun y => sv == y) with
 | none => (D, 1)
 | some k => if (c.Servers.any fun s => (atS D s).Down) = true then (D, 40) else if wholeB c D sv = true then (D, 0) else match fromC c D k with
  | none => (D, 260)
  | some s => (lay1 D sv (newC c.Id c.Ver (dataS c D s)), 0)
noncomputable def lookP (c : api_Chain) (D : List api_Disk) (k j : Nat) : List UInt8 × Bool × Bool :=
 match ((c.Servers.take j).drop (k + 1)).find? (wholeB c D) with
 | some s => (dataS c D s, true, true)
 | none => match ((c.Servers.take j).take k).reverse.find? (wholeB c D) with
  | some s => (dataS c D s, true, false)
  | none => ([], false, false)
end
end Go.Proofs
