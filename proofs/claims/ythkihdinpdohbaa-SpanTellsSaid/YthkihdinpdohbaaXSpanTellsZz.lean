/- The given statement Rows.SpanTellsSaid of Ythkihdinpdohbaa is proved. No condition. -/
import Derived.Test.YthkihdinpdohbaaXSpanTellsCSpanTells
import Derived.Test.YthkihdinpdohbaaXSpanTellsP21e
namespace Go.Proofs.Ythkihdinpdohbaa
set_option linter.all false
open Go Go.Cat Go.Proofs
theorem spanTells_holds : Rows.SpanTellsSaid := spanTells_row (spanTells_pure (fun x0 x1 x2 _ _ _ => l_SpanTells x0 x1 x2))
end Go.Proofs.Ythkihdinpdohbaa
