/- Scrubbing, plain: what is planned mends. No condition. -/
import Derived.Test.YtcbpphgndncebabGreatXMendWholeP280u
namespace Go.Proofs
set_option linter.all false
open Go Go.Cat
set_option linter.all false
theorem plan_len {D : List api_Disk} : ∀ {l : List api_Chain}, (∀ c, c ∈ l → c.Servers.length ≤ 5) → (planJ D l).length ≤ 5 * l.length
 | [], _ => by simp [planJ]
 | c :: l, h => by
  have h1 := plan_len (D := D) (l := l) fun c hc => h c (List.mem_cons_of_mem _ hc)
  have h2 : (jobsN D c).length ≤ 5 := by
   unfold jobsN; rw [List.length_map]
   refine Nat.le_trans (List.length_filter_le _ _) ?_
   rw [(sLook_perm D c).length_eq]
   unfold lookN; rw [List.length_map]
   exact Nat.le_trans (List.length_filter_le _ _) (h c (List.mem_cons_self ..))
  unfold planJ at h1 ⊢
  rw [List.flatMap_cons, List.length_append, List.length_cons]
  have h3 : (if intactN D c = [] then [] else jobsN D c).length ≤ 5 := by
   split
   ·simp
   ·exact h2
  omega
end Go.Proofs
