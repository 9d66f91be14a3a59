/- The given statement Rows.SpanPlacesSaid of Ythkihdinpdohbaa is proved. No condition. -/
import Derived.Test.YthkihdinpdohbaaXSpanPlacesCSpanPlaces
import Derived.Test.YthkihdinpdohbaaXSpanPlacesP21g
namespace Go.Proofs.Ythkihdinpdohbaa
set_option linter.all false
open Go Go.Cat Go.Proofs
theorem spanPlaces_holds : Rows.SpanPlacesSaid := spanPlaces_row (spanPlaces_pure (fun x0 x1 x2 _ _ _ => l_SpanPlaces x0 x1 x2))
end Go.Proofs.Ythkihdinpdohbaa
