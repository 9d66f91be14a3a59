/-
  No cell of these rows narrows 'for every input' (looked for: loops, veiled, ifaces, maps, wideKeys, modest, calm, conditions, laid).
  DERIVED. THE GIVEN ROWS OF THIS SEAT. 6 by the template 'for every input the law returns true; each argument reads behind the call as it read before'; 0 by the template 'total and deterministic' (their statements: YthhoomhekolbnaaTotals.lean).
  GIVEN WITH THE SEED: the statements are not yours to turn. If you find one false, say at which input.
  Laid BY PROGRAM, IN A SANDBOX (cutbox-rows.mjs): the forced cells as the released guide's own fill.sh prints them over the translation bd6fbc97cbc6fd6b… (all of the seat's roots in one cut). By AI agents, Wed Nov 11 2026. No macro, syntax, notation, axiom, sorry.
-/
import Derived.Test.YthhoomhekolbnaaChecked
import GoSem.Claim
import GoSem.ClaimJoined
import GoSem.ClaimMapViews
import Derived.JoinedTies
import Derived.KernelRfl
namespace Go.Proofs.Ythhoomhekolbnaa
/- THE CELL 'sum', in the pinned program and in every row, IS THE sha256 OF THE DUMP (.gsa) THAT YthhoomhekolbnaaProg.lean LOADS. Nothing in Lean hashes anything: it is a label: what it is worth is what the hold of that sum in a sandbox is worth. -/
noncomputable def Try.pinned : Pinned := { name := "ythhoomhekolbnaa", sum := "bd6fbc97cbc6fd6ba0631849ad5fecf9896b5459d2962a31906744d33f28c25c", checked := Try.checked }
namespace Rows
def none {H : Type} : Left H := { results := [], args := [] }

/-- 'catacomblaw22.LeaseTells': WHATEVER THE INPUT: true; the input reads as it did. -/
def leaseTellsSpec : ChangeSpec := { name := "leaseTells", fn := fun _ => fun
  | [d1, d2, d3, d4, d5] => { results := [.lit (.bool true)], args := [d1, d2, d3, d4, d5] }
  | _ => none }
def leaseTellsRow : OpenClaim := { program := "ythhoomhekolbnaa", sum := "bd6fbc97cbc6fd6ba0631849ad5fecf9896b5459d2962a31906744d33f28c25c", func := "catacomb/catacomblaw22.LeaseTells", spec := "leaseTells", unfollowed := true, recurses := true, apart := false }
def LeaseTellsSaid : Prop := leaseTellsRow.holds Try.pinned (OpenSpec.ofChange leaseTellsSpec)

/-- ITS FALSE NEIGHBOUR: 'it returns false'. Refute it at one input. -/
def leaseTellsWrong : ChangeSpec := { name := "leaseTells", fn := fun _ => fun
  | [d1, d2, d3, d4, d5] => { results := [.lit (.bool false)], args := [d1, d2, d3, d4, d5] }
  | _ => none }
def LeaseTellsWrongFalsely : Prop := leaseTellsRow.holds Try.pinned (OpenSpec.ofChange leaseTellsWrong)

/-- 'catacomblaw22.LeaseApart': WHATEVER THE INPUT: true; the input reads as it did. -/
def leaseApartSpec : ChangeSpec := { name := "leaseApart", fn := fun _ => fun
  | [d] => { results := [.lit (.bool true)], args := [d] }
  | _ => none }
def leaseApartRow : OpenClaim := { program := "ythhoomhekolbnaa", sum := "bd6fbc97cbc6fd6ba0631849ad5fecf9896b5459d2962a31906744d33f28c25c", func := "catacomb/catacomblaw22.LeaseApart", spec := "leaseApart", unfollowed := true, recurses := true, apart := false }
def LeaseApartSaid : Prop := leaseApartRow.holds Try.pinned (OpenSpec.ofChange leaseApartSpec)

/-- ITS FALSE NEIGHBOUR: 'it returns false'. Refute it at one input. -/
def leaseApartWrong : ChangeSpec := { name := "leaseApart", fn := fun _ => fun
  | [d] => { results := [.lit (.bool false)], args := [d] }
  | _ => none }
def LeaseApartWrongFalsely : Prop := leaseApartRow.holds Try.pinned (OpenSpec.ofChange leaseApartWrong)

/-- 'catacomblaw22.LeaseRecalls': WHATEVER THE INPUT: true; the input reads as it did. -/
def leaseRecallsSpec : ChangeSpec := { name := "leaseRecalls", fn := fun _ => fun
  | [d1, d2, d3] => { results := [.lit (.bool true)], args := [d1, d2, d3] }
  | _ => none }
def leaseRecallsRow : OpenClaim := { program := "ythhoomhekolbnaa", sum := "bd6fbc97cbc6fd6ba0631849ad5fecf9896b5459d2962a31906744d33f28c25c", func := "catacomb/catacomblaw22.LeaseRecalls", spec := "leaseRecalls", unfollowed := true, recurses := true, apart := false }
def LeaseRecallsSaid : Prop := leaseRecallsRow.holds Try.pinned (OpenSpec.ofChange leaseRecallsSpec)

/-- ITS FALSE NEIGHBOUR: 'it returns false'. Refute it at one input. -/
def leaseRecallsWrong : ChangeSpec := { name := "leaseRecalls", fn := fun _ => fun
  | [d1, d2, d3] => { results := [.lit (.bool false)], args := [d1, d2, d3] }
  | _ => none }
def LeaseRecallsWrongFalsely : Prop := leaseRecallsRow.holds Try.pinned (OpenSpec.ofChange leaseRecallsWrong)

/-- 'catacomblaw22.LeaseShares': WHATEVER THE INPUT: true; the input reads as it did. -/
def leaseSharesSpec : ChangeSpec := { name := "leaseShares", fn := fun _ => fun
  | [d1, d2] => { results := [.lit (.bool true)], args := [d1, d2] }
  | _ => none }
def leaseSharesRow : OpenClaim := { program := "ythhoomhekolbnaa", sum := "bd6fbc97cbc6fd6ba0631849ad5fecf9896b5459d2962a31906744d33f28c25c", func := "catacomb/catacomblaw22.LeaseShares", spec := "leaseShares", unfollowed := true, recurses := true, apart := false }
def LeaseSharesSaid : Prop := leaseSharesRow.holds Try.pinned (OpenSpec.ofChange leaseSharesSpec)

/-- ITS FALSE NEIGHBOUR: 'it returns false'. Refute it at one input. -/
def leaseSharesWrong : ChangeSpec := { name := "leaseShares", fn := fun _ => fun
  | [d1, d2] => { results := [.lit (.bool false)], args := [d1, d2] }
  | _ => none }
def LeaseSharesWrongFalsely : Prop := leaseSharesRow.holds Try.pinned (OpenSpec.ofChange leaseSharesWrong)

/-- 'catacomblaw22.LeaseHas': WHATEVER THE INPUT: true; the input reads as it did. -/
def leaseHasSpec : ChangeSpec := { name := "leaseHas", fn := fun _ => fun
  | [d1, d2, d3, d4] => { results := [.lit (.bool true)], args := [d1, d2, d3, d4] }
  | _ => none }
def leaseHasRow : OpenClaim := { program := "ythhoomhekolbnaa", sum := "bd6fbc97cbc6fd6ba0631849ad5fecf9896b5459d2962a31906744d33f28c25c", func := "catacomb/catacomblaw22.LeaseHas", spec := "leaseHas", unfollowed := true, recurses := true, apart := false }
def LeaseHasSaid : Prop := leaseHasRow.holds Try.pinned (OpenSpec.ofChange leaseHasSpec)

/-- ITS FALSE NEIGHBOUR: 'it returns false'. Refute it at one input. -/
def leaseHasWrong : ChangeSpec := { name := "leaseHas", fn := fun _ => fun
  | [d1, d2, d3, d4] => { results := [.lit (.bool false)], args := [d1, d2, d3, d4] }
  | _ => none }
def LeaseHasWrongFalsely : Prop := leaseHasRow.holds Try.pinned (OpenSpec.ofChange leaseHasWrong)

/-- 'catacomblaw22.LeaseClocks': WHATEVER THE INPUT: true; the input reads as it did. -/
def leaseClocksSpec : ChangeSpec := { name := "leaseClocks", fn := fun _ => fun
  | [d1, d2, d3, d4, d5] => { results := [.lit (.bool true)], args := [d1, d2, d3, d4, d5] }
  | _ => none }
def leaseClocksRow : OpenClaim := { program := "ythhoomhekolbnaa", sum := "bd6fbc97cbc6fd6ba0631849ad5fecf9896b5459d2962a31906744d33f28c25c", func := "catacomb/catacomblaw22.LeaseClocks", spec := "leaseClocks", unfollowed := true, recurses := true, apart := false }
def LeaseClocksSaid : Prop := leaseClocksRow.holds Try.pinned (OpenSpec.ofChange leaseClocksSpec)

/-- ITS FALSE NEIGHBOUR: 'it returns false'. Refute it at one input. -/
def leaseClocksWrong : ChangeSpec := { name := "leaseClocks", fn := fun _ => fun
  | [d1, d2, d3, d4, d5] => { results := [.lit (.bool false)], args := [d1, d2, d3, d4, d5] }
  | _ => none }
def LeaseClocksWrongFalsely : Prop := leaseClocksRow.holds Try.pinned (OpenSpec.ofChange leaseClocksWrong)

/- THE SECOND FORM. 'bulk': how many values and letters a reading holds, each counted each time it is reached (what is shared counts as often as it is met; a slice's spare places count too). A statement '..UptoSaid' is the law's where the arguments, and the package variables that the reading takes, are together of bulk at most 1048576: NARROWER than '..Said'. Prove '..Said' where nothing that the law and all that it calls make is longer than what came in: it says more and counts as full. Else prove '..UptoSaid'. A law counts once. -/
mutual
def uptoBulk {H : Type} : DataW H → Nat
  | .lit (.string bytes) => bytes.length + 1
  | .lit _ => 1
  | .nil => 1
  | .ptr d => uptoBulk d + 1
  | .slice elems spare => uptoBulkAll elems + uptoBulkAll spare + 1
  | .agg parts => uptoBulkAll parts + 1
  | .iface _ d => uptoBulk d + 1
  | .map entries => uptoBulkEntries entries + 1
  | .held _ => 1
def uptoBulkAll {H : Type} : List (DataW H) → Nat
  | [] => 0
  | d :: r => uptoBulk d + uptoBulkAll r
def uptoBulkEntries {H : Type} : List (Lit × DataW H) → Nat
  | [] => 0
  | x :: r => uptoBulkEntry x + uptoBulkEntries r
def uptoBulkEntry {H : Type} : Lit × DataW H → Nat
  | (.string bytes, d) => bytes.length + uptoBulk d + 1
  | (_, d) => uptoBulk d + 1
 end
def uptoSmall : (H : Type) → List (DataW H) → Bool := fun _ ds => decide (uptoBulkAll ds ≤ 1048576)
def OpenSpec.upto (s : _root_.Go.ChangeSpec) : _root_.Go.OpenSpec := { _root_.Go.OpenSpec.ofChange s with cond := some uptoSmall }

/-- 'catacomblaw22.LeaseTells', WHERE WHAT IT READS IS OF BULK AT MOST 1048576: true; the input reads as it did. -/
def leaseTellsUptoRow : OpenClaim := { program := "ythhoomhekolbnaa", sum := "bd6fbc97cbc6fd6ba0631849ad5fecf9896b5459d2962a31906744d33f28c25c", func := "catacomb/catacomblaw22.LeaseTells", spec := "leaseTells", unfollowed := true, recurses := true, apart := false, narrowed := true }
def LeaseTellsUptoSaid : Prop := leaseTellsUptoRow.holds Try.pinned (OpenSpec.upto leaseTellsSpec)

/-- 'catacomblaw22.LeaseApart', WHERE WHAT IT READS IS OF BULK AT MOST 1048576: true; the input reads as it did. -/
def leaseApartUptoRow : OpenClaim := { program := "ythhoomhekolbnaa", sum := "bd6fbc97cbc6fd6ba0631849ad5fecf9896b5459d2962a31906744d33f28c25c", func := "catacomb/catacomblaw22.LeaseApart", spec := "leaseApart", unfollowed := true, recurses := true, apart := false, narrowed := true }
def LeaseApartUptoSaid : Prop := leaseApartUptoRow.holds Try.pinned (OpenSpec.upto leaseApartSpec)

/-- 'catacomblaw22.LeaseRecalls', WHERE WHAT IT READS IS OF BULK AT MOST 1048576: true; the input reads as it did. -/
def leaseRecallsUptoRow : OpenClaim := { program := "ythhoomhekolbnaa", sum := "bd6fbc97cbc6fd6ba0631849ad5fecf9896b5459d2962a31906744d33f28c25c", func := "catacomb/catacomblaw22.LeaseRecalls", spec := "leaseRecalls", unfollowed := true, recurses := true, apart := false, narrowed := true }
def LeaseRecallsUptoSaid : Prop := leaseRecallsUptoRow.holds Try.pinned (OpenSpec.upto leaseRecallsSpec)

/-- 'catacomblaw22.LeaseShares', WHERE WHAT IT READS IS OF BULK AT MOST 1048576: true; the input reads as it did. -/
def leaseSharesUptoRow : OpenClaim := { program := "ythhoomhekolbnaa", sum := "bd6fbc97cbc6fd6ba0631849ad5fecf9896b5459d2962a31906744d33f28c25c", func := "catacomb/catacomblaw22.LeaseShares", spec := "leaseShares", unfollowed := true, recurses := true, apart := false, narrowed := true }
def LeaseSharesUptoSaid : Prop := leaseSharesUptoRow.holds Try.pinned (OpenSpec.upto leaseSharesSpec)

/-- 'catacomblaw22.LeaseHas', WHERE WHAT IT READS IS OF BULK AT MOST 1048576: true; the input reads as it did. -/
def leaseHasUptoRow : OpenClaim := { program := "ythhoomhekolbnaa", sum := "bd6fbc97cbc6fd6ba0631849ad5fecf9896b5459d2962a31906744d33f28c25c", func := "catacomb/catacomblaw22.LeaseHas", spec := "leaseHas", unfollowed := true, recurses := true, apart := false, narrowed := true }
def LeaseHasUptoSaid : Prop := leaseHasUptoRow.holds Try.pinned (OpenSpec.upto leaseHasSpec)

/-- 'catacomblaw22.LeaseClocks', WHERE WHAT IT READS IS OF BULK AT MOST 1048576: true; the input reads as it did. -/
def leaseClocksUptoRow : OpenClaim := { program := "ythhoomhekolbnaa", sum := "bd6fbc97cbc6fd6ba0631849ad5fecf9896b5459d2962a31906744d33f28c25c", func := "catacomb/catacomblaw22.LeaseClocks", spec := "leaseClocks", unfollowed := true, recurses := true, apart := false, narrowed := true }
def LeaseClocksUptoSaid : Prop := leaseClocksUptoRow.holds Try.pinned (OpenSpec.upto leaseClocksSpec)

end Rows
end Go.Proofs.Ythhoomhekolbnaa
