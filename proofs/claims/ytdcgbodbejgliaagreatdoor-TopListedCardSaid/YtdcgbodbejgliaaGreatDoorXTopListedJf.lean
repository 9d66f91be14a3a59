/- Closed facts of the row of TopListed, piece c. No condition. -/
import Derived.Test.YtdcgbodbejgliaaGreatDoorXTopListedJfa
import Derived.Test.YtdcgbodbejgliaaGreatDoorXTopListedJfb
import Derived.JoinedOf
import Derived.KernelRfl
open Bool renaming and_eq_true_iff → CD
namespace Go.Proofs.YtdcgbodbejgliaaGreatDoor
set_option linter.all false
open Go Go.Proofs
set_option maxRecDepth 100000
theorem jf : joinedFacts Tryz.prog 3 Tryz.f3 Rows.topListedSpec Rows.topListedRow = true := by
  unfold joinedFacts
  iterate 19 refine CD.2 ⟨?_, by kernel_rfl⟩
  refine CD.2 ⟨?_, jf3⟩
  refine CD.2 ⟨?_, jf2⟩
  refine CD.2 ⟨?_, jf1⟩
  refine CD.2 ⟨?_, jf0⟩
  kernel_rfl
end Go.Proofs.YtdcgbodbejgliaaGreatDoor
