/- What the library says of its sort, out of how the program holds it. No condition. -/
import Derived.Test.YtcbpphgndncebaaCat2
import Derived.Shelf.SlSortCmp.NoneTotal
namespace Go.Cat
set_option linter.all false
open Go.RowKit Go.Sort Go.Proofs Go.Shelf

theorem sortSays_of {P : Program} {ρ : Ren} {k : Nat} (L : SlLaysF0.n6 P ρ) (aE : ∀ w, (isAgg (ρ.t 24)).run P w = .ok true w) (zE : ∀ w, (Go.sizeOf (ρ.t 24)).run P w = .ok k w) : SortSays P (ρ.f 6) k :=
  ⟨fun p cap fv w => AnyF.slices_SortFunc_none L p cap fv w, fun _ _ enc hk h1 cf hO g cb blk off cap d w eg hcmp hH hblk hsz =>
    AnyQ.slices_SortFunc_eq L k aE zE enc hk h1 cf hO g cb blk off cap d w eg hcmp hH hblk hsz⟩
end Go.Cat
