/- The given statement Rows.ChunkTellsSaid of Ytkbkfcehehofnaa is proved. No condition. -/
import Derived.Test.YtkbkfcehehofnaaXChunkTellsCChunkTells
import Derived.Test.YtkbkfcehehofnaaXChunkTellsP25o
namespace Go.Proofs.Ytkbkfcehehofnaa
set_option linter.all false
open Go Go.Cat Go.Proofs
theorem chunkTells_holds : Rows.ChunkTellsSaid := chunkTells_row (chunkTells_pure (fun x0 x1 x2 _ _ _ => l_ChunkTells x0 x1 x2))
end Go.Proofs.Ytkbkfcehehofnaa
