/- Closed facts of the row of TopUnseen, piece c. No condition. -/
import Derived.Test.YtdcgbodbejgliaaGreatDoorXTopUnseenJfa
import Derived.Test.YtdcgbodbejgliaaGreatDoorXTopUnseenJfb
import Derived.Test.YtdcgbodbejgliaaGreatDoorRows
import Derived.JoinedOf
import Derived.KernelRfl
open Bool renaming and_eq_true_iff → Gv
namespace Go.Proofs.YtdcgbodbejgliaaGreatDoor
set_option linter.all false
open Go Go.Proofs
set_option maxRecDepth 100000
theorem jf : joinedFacts Tryz.prog 4 Tryz.f4 Rows.topUnseenSpec Rows.topUnseenRow = true := by
  unfold joinedFacts
  iterate 19 refine Gv.2 ⟨?_, by kernel_rfl⟩
  refine Gv.2 ⟨?_, jf3⟩
  refine Gv.2 ⟨?_, jf2⟩
  refine Gv.2 ⟨?_, jf1⟩
  refine Gv.2 ⟨?_, jf0⟩
  kernel_rfl
end Go.Proofs.YtdcgbodbejgliaaGreatDoor
