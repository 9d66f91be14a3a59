/-
  No cell of these rows narrows 'for every input' (looked for: loops, veiled, ifaces, maps, wideKeys, modest, calm, conditions, laid).
  DERIVED. THE GIVEN ROWS OF THIS SEAT. 6 by the template 'for every input the law returns true; each argument reads behind the call as it read before'; 0 by the template 'total and deterministic' (their statements: YtkbkfcehehofnaaTotals.lean).
  GIVEN WITH THE SEED: the statements are not yours to turn. If you find one false, say at which input.
  Laid BY PROGRAM, IN A SANDBOX (cutbox-rows.mjs): the forced cells as the released guide's own fill.sh prints them over the translation b5c8e02f1962273e… (all of the seat's roots in one cut). By AI agents, Wed Nov 11 2026. No macro, syntax, notation, axiom, sorry.
-/
import Derived.Test.YtkbkfcehehofnaaChecked
import GoSem.Claim
import GoSem.ClaimJoined
import GoSem.ClaimMapViews
import Derived.JoinedTies
import Derived.KernelRfl
namespace Go.Proofs.Ytkbkfcehehofnaa
/- THE CELL 'sum', in the pinned program and in every row, IS THE sha256 OF THE DUMP (.gsa) THAT YtkbkfcehehofnaaProg.lean LOADS. Nothing in Lean hashes anything: it is a label: what it is worth is what the hold of that sum in a sandbox is worth. -/
noncomputable def Try.pinned : Pinned := { name := "ytkbkfcehehofnaa", sum := "b5c8e02f1962273e51539f0df041b889a91d5be71de8178769fdf02453196349", checked := Try.checked }
namespace Rows
def none {H : Type} : Left H := { results := [], args := [] }

/-- 'catacomblaw25.ChunkTells': WHATEVER THE INPUT: true; the input reads as it did. -/
def chunkTellsSpec : ChangeSpec := { name := "chunkTells", fn := fun _ => fun
  | [d1, d2, d3] => { results := [.lit (.bool true)], args := [d1, d2, d3] }
  | _ => none }
def chunkTellsRow : OpenClaim := { program := "ytkbkfcehehofnaa", sum := "b5c8e02f1962273e51539f0df041b889a91d5be71de8178769fdf02453196349", func := "catacomb/catacomblaw25.ChunkTells", spec := "chunkTells", unfollowed := true, recurses := true, apart := false }
def ChunkTellsSaid : Prop := chunkTellsRow.holds Try.pinned (OpenSpec.ofChange chunkTellsSpec)

/-- ITS FALSE NEIGHBOUR: 'it returns false'. Refute it at one input. -/
def chunkTellsWrong : ChangeSpec := { name := "chunkTells", fn := fun _ => fun
  | [d1, d2, d3] => { results := [.lit (.bool false)], args := [d1, d2, d3] }
  | _ => none }
def ChunkTellsWrongFalsely : Prop := chunkTellsRow.holds Try.pinned (OpenSpec.ofChange chunkTellsWrong)

/-- 'catacomblaw25.ChunkBack': WHATEVER THE INPUT: true; the input reads as it did. -/
def chunkBackSpec : ChangeSpec := { name := "chunkBack", fn := fun _ => fun
  | [d1, d2, d3, d4, d5] => { results := [.lit (.bool true)], args := [d1, d2, d3, d4, d5] }
  | _ => none }
def chunkBackRow : OpenClaim := { program := "ytkbkfcehehofnaa", sum := "b5c8e02f1962273e51539f0df041b889a91d5be71de8178769fdf02453196349", func := "catacomb/catacomblaw25.ChunkBack", spec := "chunkBack", unfollowed := true, recurses := true, apart := false }
def ChunkBackSaid : Prop := chunkBackRow.holds Try.pinned (OpenSpec.ofChange chunkBackSpec)

/-- ITS FALSE NEIGHBOUR: 'it returns false'. Refute it at one input. -/
def chunkBackWrong : ChangeSpec := { name := "chunkBack", fn := fun _ => fun
  | [d1, d2, d3, d4, d5] => { results := [.lit (.bool false)], args := [d1, d2, d3, d4, d5] }
  | _ => none }
def ChunkBackWrongFalsely : Prop := chunkBackRow.holds Try.pinned (OpenSpec.ofChange chunkBackWrong)

/-- 'catacomblaw25.ChunkHas': WHATEVER THE INPUT: true; the input reads as it did. -/
def chunkHasSpec : ChangeSpec := { name := "chunkHas", fn := fun _ => fun
  | [d1, d2, d3] => { results := [.lit (.bool true)], args := [d1, d2, d3] }
  | _ => none }
def chunkHasRow : OpenClaim := { program := "ytkbkfcehehofnaa", sum := "b5c8e02f1962273e51539f0df041b889a91d5be71de8178769fdf02453196349", func := "catacomb/catacomblaw25.ChunkHas", spec := "chunkHas", unfollowed := true, recurses := true, apart := false }
def ChunkHasSaid : Prop := chunkHasRow.holds Try.pinned (OpenSpec.ofChange chunkHasSpec)

/-- ITS FALSE NEIGHBOUR: 'it returns false'. Refute it at one input. -/
def chunkHasWrong : ChangeSpec := { name := "chunkHas", fn := fun _ => fun
  | [d1, d2, d3] => { results := [.lit (.bool false)], args := [d1, d2, d3] }
  | _ => none }
def ChunkHasWrongFalsely : Prop := chunkHasRow.holds Try.pinned (OpenSpec.ofChange chunkHasWrong)

/-- 'catacomblaw25.ChunkOdd': WHATEVER THE INPUT: true; the input reads as it did. -/
def chunkOddSpec : ChangeSpec := { name := "chunkOdd", fn := fun _ => fun
  | [d1, d2, d3, d4, d5, d6] => { results := [.lit (.bool true)], args := [d1, d2, d3, d4, d5, d6] }
  | _ => none }
def chunkOddRow : OpenClaim := { program := "ytkbkfcehehofnaa", sum := "b5c8e02f1962273e51539f0df041b889a91d5be71de8178769fdf02453196349", func := "catacomb/catacomblaw25.ChunkOdd", spec := "chunkOdd", unfollowed := true, recurses := true, apart := false }
def ChunkOddSaid : Prop := chunkOddRow.holds Try.pinned (OpenSpec.ofChange chunkOddSpec)

/-- ITS FALSE NEIGHBOUR: 'it returns false'. Refute it at one input. -/
def chunkOddWrong : ChangeSpec := { name := "chunkOdd", fn := fun _ => fun
  | [d1, d2, d3, d4, d5, d6] => { results := [.lit (.bool false)], args := [d1, d2, d3, d4, d5, d6] }
  | _ => none }
def ChunkOddWrongFalsely : Prop := chunkOddRow.holds Try.pinned (OpenSpec.ofChange chunkOddWrong)

/-- 'catacomblaw25.ChunkSure': WHATEVER THE INPUT: true; the input reads as it did. -/
def chunkSureSpec : ChangeSpec := { name := "chunkSure", fn := fun _ => fun
  | [d1, d2, d3, d4, d5, d6] => { results := [.lit (.bool true)], args := [d1, d2, d3, d4, d5, d6] }
  | _ => none }
def chunkSureRow : OpenClaim := { program := "ytkbkfcehehofnaa", sum := "b5c8e02f1962273e51539f0df041b889a91d5be71de8178769fdf02453196349", func := "catacomb/catacomblaw25.ChunkSure", spec := "chunkSure", unfollowed := true, recurses := true, apart := false }
def ChunkSureSaid : Prop := chunkSureRow.holds Try.pinned (OpenSpec.ofChange chunkSureSpec)

/-- ITS FALSE NEIGHBOUR: 'it returns false'. Refute it at one input. -/
def chunkSureWrong : ChangeSpec := { name := "chunkSure", fn := fun _ => fun
  | [d1, d2, d3, d4, d5, d6] => { results := [.lit (.bool false)], args := [d1, d2, d3, d4, d5, d6] }
  | _ => none }
def ChunkSureWrongFalsely : Prop := chunkSureRow.holds Try.pinned (OpenSpec.ofChange chunkSureWrong)

/-- 'catacomblaw25.ChunkRots': WHATEVER THE INPUT: true; the input reads as it did. -/
def chunkRotsSpec : ChangeSpec := { name := "chunkRots", fn := fun _ => fun
  | [d1, d2, d3, d4, d5] => { results := [.lit (.bool true)], args := [d1, d2, d3, d4, d5] }
  | _ => none }
def chunkRotsRow : OpenClaim := { program := "ytkbkfcehehofnaa", sum := "b5c8e02f1962273e51539f0df041b889a91d5be71de8178769fdf02453196349", func := "catacomb/catacomblaw25.ChunkRots", spec := "chunkRots", unfollowed := true, recurses := true, apart := false }
def ChunkRotsSaid : Prop := chunkRotsRow.holds Try.pinned (OpenSpec.ofChange chunkRotsSpec)

/-- ITS FALSE NEIGHBOUR: 'it returns false'. Refute it at one input. -/
def chunkRotsWrong : ChangeSpec := { name := "chunkRots", fn := fun _ => fun
  | [d1, d2, d3, d4, d5] => { results := [.lit (.bool false)], args := [d1, d2, d3, d4, d5] }
  | _ => none }
def ChunkRotsWrongFalsely : Prop := chunkRotsRow.holds Try.pinned (OpenSpec.ofChange chunkRotsWrong)

/- THE SECOND FORM. 'bulk': how many values and letters a reading holds, each counted each time it is reached (what is shared counts as often as it is met; a slice's spare places count too). A statement '..UptoSaid' is the law's where the arguments, and the package variables that the reading takes, are together of bulk at most 1048576: NARROWER than '..Said'. Prove '..Said' where nothing that the law and all that it calls make is longer than what came in: it says more and counts as full. Else prove '..UptoSaid'. A law counts once. -/
mutual
def uptoBulk {H : Type} : DataW H → Nat
  | .lit (.string bytes) => bytes.length + 1
  | .lit _ => 1
  | .nil => 1
  | .ptr d => uptoBulk d + 1
  | .slice elems spare => uptoBulkAll elems + uptoBulkAll spare + 1
  | .agg parts => uptoBulkAll parts + 1
  | .iface _ d => uptoBulk d + 1
  | .map entries => uptoBulkEntries entries + 1
  | .held _ => 1
def uptoBulkAll {H : Type} : List (DataW H) → Nat
  | [] => 0
  | d :: r => uptoBulk d + uptoBulkAll r
def uptoBulkEntries {H : Type} : List (Lit × DataW H) → Nat
  | [] => 0
  | x :: r => uptoBulkEntry x + uptoBulkEntries r
def uptoBulkEntry {H : Type} : Lit × DataW H → Nat
  | (.string bytes, d) => bytes.length + uptoBulk d + 1
  | (_, d) => uptoBulk d + 1
 end
def uptoSmall : (H : Type) → List (DataW H) → Bool := fun _ ds => decide (uptoBulkAll ds ≤ 1048576)
def OpenSpec.upto (s : _root_.Go.ChangeSpec) : _root_.Go.OpenSpec := { _root_.Go.OpenSpec.ofChange s with cond := some uptoSmall }

/-- 'catacomblaw25.ChunkTells', WHERE WHAT IT READS IS OF BULK AT MOST 1048576: true; the input reads as it did. -/
def chunkTellsUptoRow : OpenClaim := { program := "ytkbkfcehehofnaa", sum := "b5c8e02f1962273e51539f0df041b889a91d5be71de8178769fdf02453196349", func := "catacomb/catacomblaw25.ChunkTells", spec := "chunkTells", unfollowed := true, recurses := true, apart := false, narrowed := true }
def ChunkTellsUptoSaid : Prop := chunkTellsUptoRow.holds Try.pinned (OpenSpec.upto chunkTellsSpec)

/-- 'catacomblaw25.ChunkBack', WHERE WHAT IT READS IS OF BULK AT MOST 1048576: true; the input reads as it did. -/
def chunkBackUptoRow : OpenClaim := { program := "ytkbkfcehehofnaa", sum := "b5c8e02f1962273e51539f0df041b889a91d5be71de8178769fdf02453196349", func := "catacomb/catacomblaw25.ChunkBack", spec := "chunkBack", unfollowed := true, recurses := true, apart := false, narrowed := true }
def ChunkBackUptoSaid : Prop := chunkBackUptoRow.holds Try.pinned (OpenSpec.upto chunkBackSpec)

/-- 'catacomblaw25.ChunkHas', WHERE WHAT IT READS IS OF BULK AT MOST 1048576: true; the input reads as it did. -/
def chunkHasUptoRow : OpenClaim := { program := "ytkbkfcehehofnaa", sum := "b5c8e02f1962273e51539f0df041b889a91d5be71de8178769fdf02453196349", func := "catacomb/catacomblaw25.ChunkHas", spec := "chunkHas", unfollowed := true, recurses := true, apart := false, narrowed := true }
def ChunkHasUptoSaid : Prop := chunkHasUptoRow.holds Try.pinned (OpenSpec.upto chunkHasSpec)

/-- 'catacomblaw25.ChunkOdd', WHERE WHAT IT READS IS OF BULK AT MOST 1048576: true; the input reads as it did. -/
def chunkOddUptoRow : OpenClaim := { program := "ytkbkfcehehofnaa", sum := "b5c8e02f1962273e51539f0df041b889a91d5be71de8178769fdf02453196349", func := "catacomb/catacomblaw25.ChunkOdd", spec := "chunkOdd", unfollowed := true, recurses := true, apart := false, narrowed := true }
def ChunkOddUptoSaid : Prop := chunkOddUptoRow.holds Try.pinned (OpenSpec.upto chunkOddSpec)

/-- 'catacomblaw25.ChunkSure', WHERE WHAT IT READS IS OF BULK AT MOST 1048576: true; the input reads as it did. -/
def chunkSureUptoRow : OpenClaim := { program := "ytkbkfcehehofnaa", sum := "b5c8e02f1962273e51539f0df041b889a91d5be71de8178769fdf02453196349", func := "catacomb/catacomblaw25.ChunkSure", spec := "chunkSure", unfollowed := true, recurses := true, apart := false, narrowed := true }
def ChunkSureUptoSaid : Prop := chunkSureUptoRow.holds Try.pinned (OpenSpec.upto chunkSureSpec)

/-- 'catacomblaw25.ChunkRots', WHERE WHAT IT READS IS OF BULK AT MOST 1048576: true; the input reads as it did. -/
def chunkRotsUptoRow : OpenClaim := { program := "ytkbkfcehehofnaa", sum := "b5c8e02f1962273e51539f0df041b889a91d5be71de8178769fdf02453196349", func := "catacomb/catacomblaw25.ChunkRots", spec := "chunkRots", unfollowed := true, recurses := true, apart := false, narrowed := true }
def ChunkRotsUptoSaid : Prop := chunkRotsUptoRow.holds Try.pinned (OpenSpec.upto chunkRotsSpec)

end Rows
end Go.Proofs.Ytkbkfcehehofnaa
