/- Shots, plain: what is taken. No condition. -/
import Derived.Test.YthkdflbnmbnbaaaGreatXShotRightP10v
namespace Go.Proofs
set_option linter.all false
open Go Go.Cat
set_option linter.all false
section
variable {k:Nat} {s:api_Shots}
theorem take16 (s:api_Shots) (i:Int) (h:s.Taken.length≤16):(takeS s i).1.Taken.length≤16:=by
 unfold takeS
 split
 ·exact h
 split
 ·exact h
 split
 ·exact h
 next hc=>simp at hc; simp; omega
theorem step16 (s:api_Shots) (a:law10_Act) (h:s.Taken.length≤16):(stepS s a).1.Taken.length≤16:=by
 unfold stepS
 split
 ·exact take16 _ _ h
 split
 ·unfold dropS
  split
  ·exact h
  ·have:=dropT_len s (numP s a.N); dsimp only; omega
 ·dsimp only
  unfold putS; split <;> exact h
theorem made16 (l:List law10_Act):(madeS l).Taken.length≤16:=by
 have:∀(l:List law10_Act) (s:api_Shots),s.Taken.length≤16→(l.foldl (fun s a=>(stepS s a).1) s).Taken.length≤16:=by
  intro l
  induction l with
  | nil=>intro s h; exact h
  | cons a l ih=>intro s h; exact ih _ (step16 s a h)
 exact this l _ (by decide)
theorem RT.kind {t:api_Tree} (h:RT t) {n:api_Node} (hn:n∈t.Nodes):n.Kind=1∨n.Kind=2:=(h.nd n hn).kind
end
end Go.Proofs
