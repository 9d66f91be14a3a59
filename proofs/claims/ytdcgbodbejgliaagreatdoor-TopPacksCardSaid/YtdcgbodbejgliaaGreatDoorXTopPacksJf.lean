/- Closed facts of the row of TopPacks, piece c. No condition. -/
import Derived.Test.YtdcgbodbejgliaaGreatDoorXTopPacksJfa
import Derived.Test.YtdcgbodbejgliaaGreatDoorXTopPacksJfb
import Derived.JoinedOf
import Derived.KernelRfl
open Bool renaming and_eq_true_iff → GX
namespace Go.Proofs.YtdcgbodbejgliaaGreatDoor
set_option linter.all false
open Go Go.Proofs
set_option maxRecDepth 100000
theorem jf : joinedFacts Tryz.prog 7 Tryz.f7 Rows.topPacksSpec Rows.topPacksRow = true := by
  unfold joinedFacts
  iterate 19 refine GX.2 ⟨?_, by kernel_rfl⟩
  refine GX.2 ⟨?_, jf3⟩
  refine GX.2 ⟨?_, jf2⟩
  refine GX.2 ⟨?_, jf1⟩
  refine GX.2 ⟨?_, jf0⟩
  kernel_rfl
end Go.Proofs.YtdcgbodbejgliaaGreatDoor
