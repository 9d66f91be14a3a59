/- Chunks, plain: the document's pages read. No condition. -/
import Derived.Test.YtpohijpdclienabGreatXScrubRotP270j
namespace Go.Proofs
set_option linter.all false
open Go Go.Cat
set_option linter.all false
theorem tb {c : Bool} {x y : Option Bool} (hx : Tot x (fun _ => True)) (hy : Tot y (fun _ => True)) : Tot ((if c = true then x else y).bind fun c1 => some c1) (fun _ => True) :=
 Tot.bind (R := fun _ => True) (Tot.ite (fun _ => hx) (fun _ => hy)) fun _ _ => Tot.ret trivial
end Go.Proofs
