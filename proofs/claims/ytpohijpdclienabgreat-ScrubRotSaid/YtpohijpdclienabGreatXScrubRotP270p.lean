/- Scrubbing, plain: each server once; the order of what is planned. No condition. -/
import Derived.Test.YtpohijpdclienabGreatXScrubRotP270o
namespace Go.Proofs
set_option linter.all false
open Go Go.Cat
set_option linter.all false
theorem RightL.oks {l : List api_Chain} (h : RightL l) : ∀ c, c ∈ l → ChainOk c := fun c hc => (h.mem hc).ok
theorem idx_len {α : Type} {l : List α} {n : Nat} {x : α} (h : l[n]? = some x) : n < l.length := (List.getElem?_eq_some_iff.1 h).1
end Go.Proofs
