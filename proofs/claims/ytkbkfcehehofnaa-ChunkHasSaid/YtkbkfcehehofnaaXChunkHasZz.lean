/- The given statement Rows.ChunkHasSaid of Ytkbkfcehehofnaa is proved. No condition. -/
import Derived.Test.YtkbkfcehehofnaaXChunkHasCChunkHas
import Derived.Test.YtkbkfcehehofnaaXChunkHasP25g
namespace Go.Proofs.Ytkbkfcehehofnaa
set_option linter.all false
open Go Go.Cat Go.Proofs
theorem chunkHas_holds : Rows.ChunkHasSaid := chunkHas_row (chunkHas_pure (fun x0 x1 x2 _ _ _ => l_ChunkHas x0 x1 x2))
end Go.Proofs.Ytkbkfcehehofnaa
