/- Leases, plain: by all that clocks may show. No condition. -/
import Derived.Test.YthhoomhekolbnaaXLeaseHasP22e
namespace Go.Proofs
set_option linter.all false
open Go Go.Cat
set_option linter.all false

/-- Real times: they rise, and are few. -/
structure RealP (r : List Int) : Prop where
  up : r.Pairwise (· ≤ ·)
  lo : ∀ x, x ∈ r → 0 ≤ x ∧ x ≤ 3000
  len : r.length ≤ 13
def ShowB (l : List Int) (n : Nat) : Prop := ∀ x, x ∈ l → 0 ≤ x ∧ x ≤ 4398046511104 + 4000 * n
/-- What is shown between two readings is what a clock may show. -/
def FitsC (r s : List Int) : Prop := r.length = s.length ∧ ∀ (i k : Nat) ri rk si sk, k < i → r[i]? = some ri → r[k]? = some rk → s[i]? = some si → s[k]? = some sk → (ri - rk) * 999 / 1000 ≤ si - sk ∧ si - sk ≤ ((ri - rk) * 1001 + 1000 - 1) / 1000
end Go.Proofs
