/- Scrubbing, plain: strays, cleaned away. No condition. -/
import Derived.Test.YtcbpphgndncebabGreatXMendDoesP280s
import Derived.Test.YtcbpphgndncebabGreatXMendDoesP280p
namespace Go.Proofs
set_option linter.all false
open Go Go.Cat
set_option linter.all false
structure Cl (D : List api_Disk) (F : List api_Find) (a : List api_Disk) : Prop where
 len : a.length = D.length
 fit : FitL a 120
 down : ∀ (s : Nat) (d e : api_Disk), D[s]? = some d → a[s]? = some e → e.Down = d.Down
 gone : ∀ (s : Nat) (d e : api_Disk), D[s]? = some d → a[s]? = some e → ∀ f, f ∈ F → f.Server = (s : Int) → thereN e f.Id = ([], 41)
 kept : ∀ (s : Nat) (d e : api_Disk), D[s]? = some d → a[s]? = some e → ∀ i, (∀ f, f ∈ F → f.Server = (s : Int) → f.Id ≠ i) → thereN e i = thereN d i
end Go.Proofs
