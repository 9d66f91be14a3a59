/- A world that a quiet callee leaves, as the kit's sort wants it. No condition. -/
import Derived.Test.YtcbpphgndncebaaCatX
import Derived.Sort.Grow
import Derived.Deep.Draws
namespace Go.Cat
set_option linter.all false
open Go.Sort

theorem Below.grown_eq {w w' : World} (h : Below w.heap.size w w') : ∃ q os', w' = grow (w.drewN q) os' := by
  refine ⟨w'.drawn - w.drawn, w'.heap.extract w.heap.size w'.heap.size, ?_⟩
  unfold World.drewN
  obtain ⟨heap', tape', drawn', os', out'⟩ := w'
  have h1 := h.os; have h2 := h.tape.1; have h3 := h.tape.2; have h4 := h.output; have h5 := h.size; have h6 := h.block
  dsimp only at h1 h2 h3 h4 h5 h6
  subst h1 h2 h4
  unfold grow
  have e1 : w.drawn + (drawn' - w.drawn) = drawn' := by omega
  have e2 : heap' = w.heap ++ heap'.extract w.heap.size heap'.size := by
    apply Array.ext_getElem?
    intro i
    by_cases hi : i < w.heap.size
    · rw [Array.getElem?_append_left hi]; exact h6 i hi
    · rw [Array.getElem?_append_right (by omega), Array.getElem?_extract]
      by_cases hi' : i < heap'.size
      · rw [if_pos (by omega)]; congr 1; omega
      · rw [if_neg (by omega), Array.getElem?_eq_none (by omega)]
  dsimp only
  rw [e1, ← e2]
end Go.Cat
