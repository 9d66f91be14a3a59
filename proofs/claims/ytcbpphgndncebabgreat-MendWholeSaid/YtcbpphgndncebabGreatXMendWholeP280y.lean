/- Scrubbing, plain: all is told as the document says. No condition. -/
import Derived.Test.YtcbpphgndncebabGreatXMendWholeP280x
namespace Go.Proofs
set_option linter.all false
open Go Go.Cat
set_option linter.all false
noncomputable def jobS (D : List api_Disk) (c : api_Chain) (s : Int) : api_Job :=
 ⟨c.Id, c.Ver, fromN D c s, s, ((intactN D c).length : Int), (((getN (D.getD (fromN D c s).toNat d0) c.Id).1.Data.length : Int) + 1)⟩
noncomputable def goes (D : List api_Disk) (c : api_Chain) (s : Int) : Bool := decide (s ∈ c.Servers) && (standsN D c s != 0) && (standsN D c s != 1)
noncomputable def jobsR (D : List api_Disk) (c : api_Chain) (n : Nat) : List api_Job := (((List.range n).map Int.ofNat).filter (goes D c)).map (jobS D c)
end Go.Proofs
