/- The given statement Rows.ChunkRotsSaid of Ytkbkfcehehofnaa is proved. No condition. -/
import Derived.Test.YtkbkfcehehofnaaXChunkRotsCChunkRots
import Derived.Test.YtkbkfcehehofnaaXChunkRotsP25v
namespace Go.Proofs.Ytkbkfcehehofnaa
set_option linter.all false
open Go Go.Cat Go.Proofs
theorem chunkRots_holds : Rows.ChunkRotsSaid := chunkRots_row (chunkRots_pure (fun x0 x1 x2 x3 x4 o0 o1 o2 o3 o4 => l_ChunkRots x0 x1 x2 x3 x4 o0 o1 o2 o3 o4))
end Go.Proofs.Ytkbkfcehehofnaa
