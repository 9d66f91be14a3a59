/- Scrubbing, plain: strays, cleaned away. No condition. -/
import Derived.Test.YtpohijpdclienabGreatXScrubRotP270s
import Derived.Test.YtpohijpdclienabGreatXScrubRotP270p
namespace Go.Proofs
set_option linter.all false
open Go Go.Cat
set_option linter.all false
structure Cl (D : List api_Disk) (F : List api_Find) (a : List api_Disk) : Prop where
 len : a.length = D.length
 fit : FitL a 120
 down : ∀ (s : Nat) (d e : api_Disk), D[s]? = some d → a[s]? = some e → e.Down = d.Down
 gone : ∀ (s : Nat) (d e : api_Disk), D[s]? = some d → a[s]? = some e → ∀ f, f ∈ F → f.Server = (s : Int) → thereN e f.Id = ([], 41)
 kept : ∀ (s : Nat) (d e : api_Disk), D[s]? = some d → a[s]? = some e → ∀ i, (∀ f, f ∈ F → f.Server = (s : Int) → f.Id ≠ i) → thereN e i = thereN d i
theorem stands_same {D a : List api_Disk} {c : api_Chain} {s : Int} (hD : Small D) (ha : Small a) (hlen : a.length = D.length) (h : ∀ d e, D[s.toNat]? = some d → a[s.toNat]? = some e → e.Down = d.Down ∧ thereN e c.Id = thereN d c.Id) : standsN a c s = standsN D c s := by
 unfold standsN
 rcases Nat.lt_or_ge s.toNat D.length with hlt | hge
 ·have h1 : D[s.toNat]? = some D[s.toNat] := List.getElem?_eq_getElem hlt
  have h2 : a[s.toNat]? = some a[s.toNat] := List.getElem?_eq_getElem (by omega)
  obtain ⟨h3, h4⟩ := h _ _ h1 h2
  rw [h1, h2]
  dsimp only
  unfold standD
  rw [h3, getN_congr (ha.2 _ (List.mem_of_getElem? h2)) (hD.2 _ (List.mem_of_getElem? h1)) h4]
 ·rw [List.getElem?_eq_none hge, List.getElem?_eq_none (by omega)]
end Go.Proofs
