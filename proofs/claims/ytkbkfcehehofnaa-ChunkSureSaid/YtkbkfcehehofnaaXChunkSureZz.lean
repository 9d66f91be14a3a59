/- The given statement Rows.ChunkSureSaid of Ytkbkfcehehofnaa is proved. No condition. -/
import Derived.Test.YtkbkfcehehofnaaXChunkSureCChunkSure
import Derived.Test.YtkbkfcehehofnaaXChunkSureP25u
namespace Go.Proofs.Ytkbkfcehehofnaa
set_option linter.all false
open Go Go.Cat Go.Proofs
theorem chunkSure_holds : Rows.ChunkSureSaid := chunkSure_row (chunkSure_pure (fun x0 x1 x2 x3 x4 x5 o0 o1 o2 o3 o4 o5 => l_ChunkSure x0 x1 x2 x3 x4 x5 o0 o1 o2 o3 o4 o5))
end Go.Proofs.Ytkbkfcehehofnaa
