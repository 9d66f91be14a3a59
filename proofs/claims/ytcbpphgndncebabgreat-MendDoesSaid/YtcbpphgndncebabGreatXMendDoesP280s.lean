/- Scrubbing, plain: what stands on a disk behind a cleaning and behind a copy; strays. No condition. -/
import Derived.Test.YtcbpphgndncebabGreatXMendDoesP280r
import Derived.Test.YtcbpphgndncebabGreatXMendDoesP280o
namespace Go.Proofs
set_option linter.all false
open Go Go.Cat
set_option linter.all false
theorem Fit.put {S L : List api_Page} {n : Nat} {i : Int} {x : List UInt8} {b : Bool} (h : Fit ⟨S, L, b⟩ n) (hi : InI64 i) (hx : x.length ≤ 200) : Fit (syncD ⟨S, L ++ [⟨i, x⟩], false⟩) (n + 1) := by
 refine Fit.sync ⟨?_, fun p hp => ?_, h.a⟩
 ·have := h.t; simp only [List.length_append, List.length_cons, List.length_nil] at *; omega
 ·simp only [List.mem_append, List.mem_singleton] at hp
  rcases hp with hp | hp | rfl
  ·exact h.x p (List.mem_append_left _ hp)
  ·exact h.x p (List.mem_append_right _ hp)
  ·exact ⟨hx, hi⟩
def strayB (l : List api_Chain) (s i : Int) : Bool := !(l.any fun c => c.Id == i && decide (s ∈ c.Servers))
def strayS (l : List api_Chain) (s : Int) (d : api_Disk) : List api_Find := ((hasN d).filter (strayB l s)).map fun i => ⟨i, s, 6⟩
def straysN (D : List api_Disk) (l : List api_Chain) (n : Nat) : List api_Find := (List.range n).flatMap fun (s : Nat) => strayS l (s : Int) (D.getD s ⟨[], [], false⟩)
end Go.Proofs
