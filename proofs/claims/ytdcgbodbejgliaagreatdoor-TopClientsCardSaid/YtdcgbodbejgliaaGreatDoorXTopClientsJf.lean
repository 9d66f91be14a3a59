/- Closed facts of the row of TopClients, piece c. No condition. -/
import Derived.Test.YtdcgbodbejgliaaGreatDoorXTopClientsJfa
import Derived.Test.YtdcgbodbejgliaaGreatDoorXTopClientsJfb
import Derived.Test.YtdcgbodbejgliaaGreatDoorRows
import Derived.JoinedOf
import Derived.KernelRfl
open Bool renaming and_eq_true_iff → GV
namespace Go.Proofs.YtdcgbodbejgliaaGreatDoor
set_option linter.all false
open Go Go.Proofs
set_option maxRecDepth 100000
theorem jf : joinedFacts Tryz.prog 6 Tryz.f6 Rows.topClientsSpec Rows.topClientsRow = true := by
  unfold joinedFacts
  iterate 19 refine GV.2 ⟨?_, by kernel_rfl⟩
  refine GV.2 ⟨?_, jf3⟩
  refine GV.2 ⟨?_, jf2⟩
  refine GV.2 ⟨?_, jf1⟩
  refine GV.2 ⟨?_, jf0⟩
  kernel_rfl
end Go.Proofs.YtdcgbodbejgliaaGreatDoor
