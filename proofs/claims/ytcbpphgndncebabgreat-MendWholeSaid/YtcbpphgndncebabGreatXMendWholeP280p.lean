/- Scrubbing, plain: each server once; the order of what is planned. No condition. -/
import Derived.Test.YtcbpphgndncebabGreatXMendWholeP280o
namespace Go.Proofs
set_option linter.all false
open Go Go.Cat
set_option linter.all false
theorem t_start (D : List api_Disk) (l : List api_Chain) : Tot ((law27_Great D l).bind fun x2 => (if x2 then some true else (ref27_Right l).bind fun x3 => some ((!x3)))) (fun b => b = false → GreatD D ∧ l.length ≤ 12 ∧ RightL l) := by
 refine Tot.bind (t_Great27 D l) fun b hb => Tot.ite (fun h => Tot.ret fun e => by cases e) fun h => ?_
 obtain ⟨h1, h2, _⟩ := hb (by simpa using h)
 exact Tot.bind (t_RightL l (by omega)) fun r hr => Tot.ret fun e => ⟨h1, h2, hr.1 (by simpa using e)⟩
theorem RightL.oks {l : List api_Chain} (h : RightL l) : ∀ c, c ∈ l → ChainOk c := fun c hc => (h.mem hc).ok
theorem idx_len {α : Type} {l : List α} {n : Nat} {x : α} (h : l[n]? = some x) : n < l.length := (List.getElem?_eq_some_iff.1 h).1
end Go.Proofs
