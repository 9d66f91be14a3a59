/- Jobs, plain: the laws of what is spent, and of what is renewed. No condition. -/
import Derived.Test.YtcbpphgndncebabGreatXMendWholeP280D
namespace Go.Proofs
set_option linter.all false
open Go Go.Cat
theorem renV_le (l : List api_Job) (j : api_Job) : renV l j ≤ j.Left := by
 unfold renV
 split
 ·split <;> omega
 ·omega
theorem renV_pos {l : List api_Job} {j : api_Job} (hl : posL l) (hj : 1 ≤ j.Left) : 1 ≤ renV l j := by
 unfold renV
 split
 ·rename_i x hx
  have := hl x (List.mem_of_find?_eq_some hx)
  split <;> omega
 ·omega
theorem renL_Qu {l p : List api_Job} (hl : posL l) (hp : Qu p) : Qu (renL l p) := by
 unfold renL
 refine ⟨fun j hj => ?_, ?_, ?_⟩
 ·obtain ⟨x, hx, rfl⟩ := List.mem_map.1 hj
  have hm := hp.1 x hx
  have h1 := renV_le l x
  have h2 := renV_pos (l := l) (j := x) hl (by unfold MayJ at hm; omega)
  unfold MayJ at *; unfold setL; dsimp only; omega
 ·rw [List.pairwise_map]; exact hp.2.1
 ·rw [List.pairwise_map]; exact hp.2.2
theorem renL_nil (p : List api_Job) : renL [] p = p := by
 unfold renL
 conv => rhs; rw [← List.map_id p]
 exact List.map_congr_left fun j _ => rfl
end Go.Proofs
