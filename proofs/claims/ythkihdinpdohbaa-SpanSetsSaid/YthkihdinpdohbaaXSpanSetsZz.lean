/- The given statement Rows.SpanSetsSaid of Ythkihdinpdohbaa is proved. No condition. -/
import Derived.Test.YthkihdinpdohbaaXSpanSetsCSpanSets
import Derived.Test.YthkihdinpdohbaaXSpanSetsP21g
namespace Go.Proofs.Ythkihdinpdohbaa
set_option linter.all false
open Go Go.Cat Go.Proofs
theorem spanSets_holds : Rows.SpanSetsSaid := spanSets_row (spanSets_pure (fun x0 x1 x2 _ _ _ => l_SpanSets x0 x1 x2))
end Go.Proofs.Ythkihdinpdohbaa
