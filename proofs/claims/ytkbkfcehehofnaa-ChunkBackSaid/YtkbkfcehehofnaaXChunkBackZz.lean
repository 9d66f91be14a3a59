/- The given statement Rows.ChunkBackSaid of Ytkbkfcehehofnaa is proved. No condition. -/
import Derived.Test.YtkbkfcehehofnaaXChunkBackCChunkBack
import Derived.Test.YtkbkfcehehofnaaXChunkBackP25j
namespace Go.Proofs.Ytkbkfcehehofnaa
set_option linter.all false
open Go Go.Cat Go.Proofs
theorem chunkBack_holds : Rows.ChunkBackSaid := chunkBack_row (chunkBack_pure (fun x0 x1 x2 x3 x4 o0 o1 o2 o3 o4 => l_ChunkBack x0 x1 x2 x3 x4 o0 o1 o2 o3 o4))
end Go.Proofs.Ytkbkfcehehofnaa
