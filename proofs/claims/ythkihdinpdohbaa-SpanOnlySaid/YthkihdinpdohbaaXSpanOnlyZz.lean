/- The given statement Rows.SpanOnlySaid of Ythkihdinpdohbaa is proved. No condition. -/
import Derived.Test.YthkihdinpdohbaaXSpanOnlyCSpanOnly
import Derived.Test.YthkihdinpdohbaaXSpanOnlyP21g
namespace Go.Proofs.Ythkihdinpdohbaa
set_option linter.all false
open Go Go.Cat Go.Proofs
theorem spanOnly_holds : Rows.SpanOnlySaid := spanOnly_row (spanOnly_pure (fun x0 x1 _ _ => l_SpanOnly x0 x1))
end Go.Proofs.Ythkihdinpdohbaa
