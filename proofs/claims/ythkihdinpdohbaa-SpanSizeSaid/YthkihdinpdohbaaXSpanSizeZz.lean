/- The given statement Rows.SpanSizeSaid of Ythkihdinpdohbaa is proved. No condition. -/
import Derived.Test.YthkihdinpdohbaaXSpanSizeCSpanSize
import Derived.Test.YthkihdinpdohbaaXSpanSizeP21g
namespace Go.Proofs.Ythkihdinpdohbaa
set_option linter.all false
open Go Go.Cat Go.Proofs
theorem spanSize_holds : Rows.SpanSizeSaid := spanSize_row (spanSize_pure (fun x0 x1 _ _ => l_SpanSize x0 x1))
end Go.Proofs.Ythkihdinpdohbaa
