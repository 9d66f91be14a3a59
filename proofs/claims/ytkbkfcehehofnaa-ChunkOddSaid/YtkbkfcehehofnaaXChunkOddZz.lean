/- The given statement Rows.ChunkOddSaid of Ytkbkfcehehofnaa is proved. No condition. -/
import Derived.Test.YtkbkfcehehofnaaXChunkOddCChunkOdd
import Derived.Test.YtkbkfcehehofnaaXChunkOddP25h
namespace Go.Proofs.Ytkbkfcehehofnaa
set_option linter.all false
open Go Go.Cat Go.Proofs
theorem chunkOdd_holds : Rows.ChunkOddSaid := chunkOdd_row (chunkOdd_pure (fun x0 x1 x2 x3 x4 x5 _ _ _ _ _ _ => l_ChunkOdd x0 x1 x2 x3 x4 x5))
end Go.Proofs.Ytkbkfcehehofnaa
