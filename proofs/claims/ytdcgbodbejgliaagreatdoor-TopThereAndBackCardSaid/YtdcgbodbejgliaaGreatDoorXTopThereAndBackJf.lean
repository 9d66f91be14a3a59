/- Closed facts of the row of TopThereAndBack, piece c. No condition. -/
import Derived.Test.YtdcgbodbejgliaaGreatDoorXTopThereAndBackJfa
import Derived.Test.YtdcgbodbejgliaaGreatDoorXTopThereAndBackJfb
import Derived.JoinedOf
import Derived.KernelRfl
open Bool renaming and_eq_true_iff->Gk
namespace Go.Proofs.YtdcgbodbejgliaaGreatDoor
set_option linter.all false
open Go Go.Proofs
set_option maxRecDepth 100000
theorem jf:joinedFacts Tryz.prog 5 Tryz.f5 Rows.topThereAndBackSpec Rows.topThereAndBackRow=true:=by
  unfold joinedFacts
  iterate 19 refine Gk.2 ⟨?_,by kernel_rfl⟩
  refine Gk.2 ⟨?_,jf3⟩
  refine Gk.2 ⟨?_,jf2⟩
  refine Gk.2 ⟨?_,jf1⟩
  refine Gk.2 ⟨?_,jf0⟩
  kernel_rfl
end Go.Proofs.YtdcgbodbejgliaaGreatDoor
