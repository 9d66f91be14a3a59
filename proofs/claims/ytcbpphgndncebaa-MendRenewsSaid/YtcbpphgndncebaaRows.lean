/-
  No cell of these rows narrows 'for every input' (looked for: loops, veiled, ifaces, maps, wideKeys, modest, calm, conditions, laid).
  DERIVED. THE GIVEN ROWS OF THIS SEAT. 6 by the template 'for every input the law returns true; each argument reads behind the call as it read before'; 0 by the template 'total and deterministic' (their statements: YtcbpphgndncebaaTotals.lean).
  GIVEN WITH THE SEED: the statements are not yours to turn. If you find one false, say at which input.
  Laid BY PROGRAM, IN A SANDBOX (cutbox-rows.mjs): the forced cells as the released guide's own fill.sh prints them over the translation d546889e00498316… (all of the seat's roots in one cut). By AI agents, Wed Nov 11 2026. No macro, syntax, notation, axiom, sorry.
-/
import Derived.Test.YtcbpphgndncebaaChecked
import GoSem.Claim
import GoSem.ClaimJoined
import GoSem.ClaimMapViews
import Derived.JoinedTies
import Derived.KernelRfl
namespace Go.Proofs.Ytcbpphgndncebaa
/- THE CELL 'sum', in the pinned program and in every row, IS THE sha256 OF THE DUMP (.gsa) THAT YtcbpphgndncebaaProg.lean LOADS. Nothing in Lean hashes anything: it is a label: what it is worth is what the hold of that sum in a sandbox is worth. -/
noncomputable def Try.pinned : Pinned := { name := "ytcbpphgndncebaa", sum := "d546889e0049831651807f803c40075654af1b560e2b3804ebf442b3e08416b2", checked := Try.checked }
namespace Rows
def none {H : Type} : Left H := { results := [], args := [] }

/-- 'catacomblaw28.MendTells': WHATEVER THE INPUT: true; the input reads as it did. -/
def mendTellsSpec : ChangeSpec := { name := "mendTells", fn := fun _ => fun
  | [d1, d2, d3] => { results := [.lit (.bool true)], args := [d1, d2, d3] }
  | _ => none }
def mendTellsRow : OpenClaim := { program := "ytcbpphgndncebaa", sum := "d546889e0049831651807f803c40075654af1b560e2b3804ebf442b3e08416b2", func := "catacomb/catacomblaw28.MendTells", spec := "mendTells", unfollowed := true, recurses := true, apart := false }
def MendTellsSaid : Prop := mendTellsRow.holds Try.pinned (OpenSpec.ofChange mendTellsSpec)

/-- ITS FALSE NEIGHBOUR: 'it returns false'. Refute it at one input. -/
def mendTellsWrong : ChangeSpec := { name := "mendTells", fn := fun _ => fun
  | [d1, d2, d3] => { results := [.lit (.bool false)], args := [d1, d2, d3] }
  | _ => none }
def MendTellsWrongFalsely : Prop := mendTellsRow.holds Try.pinned (OpenSpec.ofChange mendTellsWrong)

/-- 'catacomblaw28.MendQueue': WHATEVER THE INPUT: true; the input reads as it did. -/
def mendQueueSpec : ChangeSpec := { name := "mendQueue", fn := fun _ => fun
  | [d1, d2] => { results := [.lit (.bool true)], args := [d1, d2] }
  | _ => none }
def mendQueueRow : OpenClaim := { program := "ytcbpphgndncebaa", sum := "d546889e0049831651807f803c40075654af1b560e2b3804ebf442b3e08416b2", func := "catacomb/catacomblaw28.MendQueue", spec := "mendQueue", unfollowed := true, recurses := true, apart := false }
def MendQueueSaid : Prop := mendQueueRow.holds Try.pinned (OpenSpec.ofChange mendQueueSpec)

/-- ITS FALSE NEIGHBOUR: 'it returns false'. Refute it at one input. -/
def mendQueueWrong : ChangeSpec := { name := "mendQueue", fn := fun _ => fun
  | [d1, d2] => { results := [.lit (.bool false)], args := [d1, d2] }
  | _ => none }
def MendQueueWrongFalsely : Prop := mendQueueRow.holds Try.pinned (OpenSpec.ofChange mendQueueWrong)

/-- 'catacomblaw28.MendBudget': WHATEVER THE INPUT: true; the input reads as it did. -/
def mendBudgetSpec : ChangeSpec := { name := "mendBudget", fn := fun _ => fun
  | [d1, d2] => { results := [.lit (.bool true)], args := [d1, d2] }
  | _ => none }
def mendBudgetRow : OpenClaim := { program := "ytcbpphgndncebaa", sum := "d546889e0049831651807f803c40075654af1b560e2b3804ebf442b3e08416b2", func := "catacomb/catacomblaw28.MendBudget", spec := "mendBudget", unfollowed := true, recurses := true, apart := false }
def MendBudgetSaid : Prop := mendBudgetRow.holds Try.pinned (OpenSpec.ofChange mendBudgetSpec)

/-- ITS FALSE NEIGHBOUR: 'it returns false'. Refute it at one input. -/
def mendBudgetWrong : ChangeSpec := { name := "mendBudget", fn := fun _ => fun
  | [d1, d2] => { results := [.lit (.bool false)], args := [d1, d2] }
  | _ => none }
def MendBudgetWrongFalsely : Prop := mendBudgetRow.holds Try.pinned (OpenSpec.ofChange mendBudgetWrong)

/-- 'catacomblaw28.MendEnds': WHATEVER THE INPUT: true; the input reads as it did. -/
def mendEndsSpec : ChangeSpec := { name := "mendEnds", fn := fun _ => fun
  | [d1, d2] => { results := [.lit (.bool true)], args := [d1, d2] }
  | _ => none }
def mendEndsRow : OpenClaim := { program := "ytcbpphgndncebaa", sum := "d546889e0049831651807f803c40075654af1b560e2b3804ebf442b3e08416b2", func := "catacomb/catacomblaw28.MendEnds", spec := "mendEnds", unfollowed := true, recurses := true, apart := false }
def MendEndsSaid : Prop := mendEndsRow.holds Try.pinned (OpenSpec.ofChange mendEndsSpec)

/-- ITS FALSE NEIGHBOUR: 'it returns false'. Refute it at one input. -/
def mendEndsWrong : ChangeSpec := { name := "mendEnds", fn := fun _ => fun
  | [d1, d2] => { results := [.lit (.bool false)], args := [d1, d2] }
  | _ => none }
def MendEndsWrongFalsely : Prop := mendEndsRow.holds Try.pinned (OpenSpec.ofChange mendEndsWrong)

/-- 'catacomblaw28.MendTwice': WHATEVER THE INPUT: true; the input reads as it did. -/
def mendTwiceSpec : ChangeSpec := { name := "mendTwice", fn := fun _ => fun
  | [d1, d2, d3] => { results := [.lit (.bool true)], args := [d1, d2, d3] }
  | _ => none }
def mendTwiceRow : OpenClaim := { program := "ytcbpphgndncebaa", sum := "d546889e0049831651807f803c40075654af1b560e2b3804ebf442b3e08416b2", func := "catacomb/catacomblaw28.MendTwice", spec := "mendTwice", unfollowed := true, recurses := true, apart := false }
def MendTwiceSaid : Prop := mendTwiceRow.holds Try.pinned (OpenSpec.ofChange mendTwiceSpec)

/-- ITS FALSE NEIGHBOUR: 'it returns false'. Refute it at one input. -/
def mendTwiceWrong : ChangeSpec := { name := "mendTwice", fn := fun _ => fun
  | [d1, d2, d3] => { results := [.lit (.bool false)], args := [d1, d2, d3] }
  | _ => none }
def MendTwiceWrongFalsely : Prop := mendTwiceRow.holds Try.pinned (OpenSpec.ofChange mendTwiceWrong)

/-- 'catacomblaw28.MendRenews': WHATEVER THE INPUT: true; the input reads as it did. -/
def mendRenewsSpec : ChangeSpec := { name := "mendRenews", fn := fun _ => fun
  | [d1, d2, d3] => { results := [.lit (.bool true)], args := [d1, d2, d3] }
  | _ => none }
def mendRenewsRow : OpenClaim := { program := "ytcbpphgndncebaa", sum := "d546889e0049831651807f803c40075654af1b560e2b3804ebf442b3e08416b2", func := "catacomb/catacomblaw28.MendRenews", spec := "mendRenews", unfollowed := true, recurses := true, apart := false }
def MendRenewsSaid : Prop := mendRenewsRow.holds Try.pinned (OpenSpec.ofChange mendRenewsSpec)

/-- ITS FALSE NEIGHBOUR: 'it returns false'. Refute it at one input. -/
def mendRenewsWrong : ChangeSpec := { name := "mendRenews", fn := fun _ => fun
  | [d1, d2, d3] => { results := [.lit (.bool false)], args := [d1, d2, d3] }
  | _ => none }
def MendRenewsWrongFalsely : Prop := mendRenewsRow.holds Try.pinned (OpenSpec.ofChange mendRenewsWrong)

/- THE SECOND FORM. 'bulk': how many values and letters a reading holds, each counted each time it is reached (what is shared counts as often as it is met; a slice's spare places count too). A statement '..UptoSaid' is the law's where the arguments, and the package variables that the reading takes, are together of bulk at most 1048576: NARROWER than '..Said'. Prove '..Said' where nothing that the law and all that it calls make is longer than what came in: it says more and counts as full. Else prove '..UptoSaid'. A law counts once. -/
mutual
def uptoBulk {H : Type} : DataW H → Nat
  | .lit (.string bytes) => bytes.length + 1
  | .lit _ => 1
  | .nil => 1
  | .ptr d => uptoBulk d + 1
  | .slice elems spare => uptoBulkAll elems + uptoBulkAll spare + 1
  | .agg parts => uptoBulkAll parts + 1
  | .iface _ d => uptoBulk d + 1
  | .map entries => uptoBulkEntries entries + 1
  | .held _ => 1
def uptoBulkAll {H : Type} : List (DataW H) → Nat
  | [] => 0
  | d :: r => uptoBulk d + uptoBulkAll r
def uptoBulkEntries {H : Type} : List (Lit × DataW H) → Nat
  | [] => 0
  | x :: r => uptoBulkEntry x + uptoBulkEntries r
def uptoBulkEntry {H : Type} : Lit × DataW H → Nat
  | (.string bytes, d) => bytes.length + uptoBulk d + 1
  | (_, d) => uptoBulk d + 1
 end
def uptoSmall : (H : Type) → List (DataW H) → Bool := fun _ ds => decide (uptoBulkAll ds ≤ 1048576)
def OpenSpec.upto (s : _root_.Go.ChangeSpec) : _root_.Go.OpenSpec := { _root_.Go.OpenSpec.ofChange s with cond := some uptoSmall }

/-- 'catacomblaw28.MendTells', WHERE WHAT IT READS IS OF BULK AT MOST 1048576: true; the input reads as it did. -/
def mendTellsUptoRow : OpenClaim := { program := "ytcbpphgndncebaa", sum := "d546889e0049831651807f803c40075654af1b560e2b3804ebf442b3e08416b2", func := "catacomb/catacomblaw28.MendTells", spec := "mendTells", unfollowed := true, recurses := true, apart := false, narrowed := true }
def MendTellsUptoSaid : Prop := mendTellsUptoRow.holds Try.pinned (OpenSpec.upto mendTellsSpec)

/-- 'catacomblaw28.MendQueue', WHERE WHAT IT READS IS OF BULK AT MOST 1048576: true; the input reads as it did. -/
def mendQueueUptoRow : OpenClaim := { program := "ytcbpphgndncebaa", sum := "d546889e0049831651807f803c40075654af1b560e2b3804ebf442b3e08416b2", func := "catacomb/catacomblaw28.MendQueue", spec := "mendQueue", unfollowed := true, recurses := true, apart := false, narrowed := true }
def MendQueueUptoSaid : Prop := mendQueueUptoRow.holds Try.pinned (OpenSpec.upto mendQueueSpec)

/-- 'catacomblaw28.MendBudget', WHERE WHAT IT READS IS OF BULK AT MOST 1048576: true; the input reads as it did. -/
def mendBudgetUptoRow : OpenClaim := { program := "ytcbpphgndncebaa", sum := "d546889e0049831651807f803c40075654af1b560e2b3804ebf442b3e08416b2", func := "catacomb/catacomblaw28.MendBudget", spec := "mendBudget", unfollowed := true, recurses := true, apart := false, narrowed := true }
def MendBudgetUptoSaid : Prop := mendBudgetUptoRow.holds Try.pinned (OpenSpec.upto mendBudgetSpec)

/-- 'catacomblaw28.MendEnds', WHERE WHAT IT READS IS OF BULK AT MOST 1048576: true; the input reads as it did. -/
def mendEndsUptoRow : OpenClaim := { program := "ytcbpphgndncebaa", sum := "d546889e0049831651807f803c40075654af1b560e2b3804ebf442b3e08416b2", func := "catacomb/catacomblaw28.MendEnds", spec := "mendEnds", unfollowed := true, recurses := true, apart := false, narrowed := true }
def MendEndsUptoSaid : Prop := mendEndsUptoRow.holds Try.pinned (OpenSpec.upto mendEndsSpec)

/-- 'catacomblaw28.MendTwice', WHERE WHAT IT READS IS OF BULK AT MOST 1048576: true; the input reads as it did. -/
def mendTwiceUptoRow : OpenClaim := { program := "ytcbpphgndncebaa", sum := "d546889e0049831651807f803c40075654af1b560e2b3804ebf442b3e08416b2", func := "catacomb/catacomblaw28.MendTwice", spec := "mendTwice", unfollowed := true, recurses := true, apart := false, narrowed := true }
def MendTwiceUptoSaid : Prop := mendTwiceUptoRow.holds Try.pinned (OpenSpec.upto mendTwiceSpec)

/-- 'catacomblaw28.MendRenews', WHERE WHAT IT READS IS OF BULK AT MOST 1048576: true; the input reads as it did. -/
def mendRenewsUptoRow : OpenClaim := { program := "ytcbpphgndncebaa", sum := "d546889e0049831651807f803c40075654af1b560e2b3804ebf442b3e08416b2", func := "catacomb/catacomblaw28.MendRenews", spec := "mendRenews", unfollowed := true, recurses := true, apart := false, narrowed := true }
def MendRenewsUptoSaid : Prop := mendRenewsUptoRow.holds Try.pinned (OpenSpec.upto mendRenewsSpec)

end Rows
end Go.Proofs.Ytcbpphgndncebaa
