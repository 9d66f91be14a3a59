/- The given statement Rows.SpanOrderSaid of Ythkihdinpdohbaa is proved. No condition. -/
import Derived.Test.YthkihdinpdohbaaXSpanOrderCSpanOrder
import Derived.Test.YthkihdinpdohbaaXSpanOrderP21g
namespace Go.Proofs.Ythkihdinpdohbaa
set_option linter.all false
open Go Go.Cat Go.Proofs
theorem spanOrder_holds : Rows.SpanOrderSaid := spanOrder_row (spanOrder_pure (fun x0 x1 _ _ => l_SpanOrder x0 x1))
end Go.Proofs.Ythkihdinpdohbaa
