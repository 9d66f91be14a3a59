/- Scrubbing, plain: what is planned, done. No condition. -/
import Derived.Test.YtcbpphgndncebabGreatXMendDoesP280q
import Derived.Test.YtcbpphgndncebabGreatXMendDoesP280t
namespace Go.Proofs
set_option linter.all false
open Go Go.Cat
set_option linter.all false
structure JobIn (D : List api_Disk) (l : List api_Chain) (j : api_Job) : Prop where
 ex : ∃ c, c ∈ l ∧ j.Id = c.Id ∧ j.Ver = c.Ver ∧ j.To ∈ c.Servers ∧ j.From ∈ intactN D c ∧ standsN D c j.To ≠ 0 ∧ standsN D c j.To ≠ 1
structure Md (n0 : Nat) (D : List api_Disk) (J : List api_Job) (a : List api_Disk) : Prop where
 len : a.length = D.length
 fit : FitL a (n0 + J.length)
 down : ∀ (s : Nat) (d e : api_Disk), D[s]? = some d → a[s]? = some e → e.Down = d.Down
 moved : ∀ (s : Nat) (e : api_Disk), a[s]? = some e → ∀ j, j ∈ J → j.To = (s : Int) → thereN e j.Id = thereN (atS D j.From) j.Id
 kept : ∀ (s : Nat) (d e : api_Disk), D[s]? = some d → a[s]? = some e → ∀ i, (∀ j, j ∈ J → j.To = (s : Int) → j.Id ≠ i) → thereN e i = thereN d i
section
variable {n0 : Nat} {D a : List api_Disk} {l : List api_Chain} {J : List api_Job}
end
end Go.Proofs
