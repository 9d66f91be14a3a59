/- Scrubbing, plain: the order of what is planned. No condition. -/
import Derived.Test.YtcbpphgndncebabGreatXMendDoesP280p
namespace Go.Proofs
set_option linter.all false
open Go Go.Cat
set_option linter.all false
structure JobOk (D : List api_Disk) (c : api_Chain) (j : api_Job) : Prop where
 id : j.Id = c.Id
 ver : j.Ver = c.Ver
 to : j.To ∈ c.Servers
 from_ : j.From ∈ intactN D c
 not : j.To ∉ intactN D c
 have_ : j.Have = ((intactN D c).length : Int)
 left1 : 1 ≤ j.Left
 left2 : j.Left ≤ 65
theorem ite_some {α : Type} {p : Prop} [Decidable p] {a b : α} : (if p then some a else some b) = some (if p then a else b) := by split <;> rfl
end Go.Proofs
