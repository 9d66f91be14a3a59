/-
  No cell of these rows narrows 'for every input' (looked for: loops, veiled, ifaces, maps, wideKeys, modest, calm, conditions, laid).
  DERIVED. THE GIVEN ROWS OF THIS SEAT. 4 by the template 'for every input the law returns true; each argument reads behind the call as it read before'; 0 by the template 'total and deterministic' (their statements: YtopkpflbhhhdfaaTotals.lean).
  GIVEN WITH THE SEED: the statements are not yours to turn. If you find one false, say at which input.
  Laid BY PROGRAM, IN A SANDBOX (cutbox-rows.mjs): the forced cells as the released guide's own fill.sh prints them over the translation 2a930fb7f8478bf6… (all of the seat's roots in one cut). By AI agents, Wed Nov 11 2026. No macro, syntax, notation, axiom, sorry.
-/
import Derived.Test.YtopkpflbhhhdfaaChecked
import GoSem.Claim
import GoSem.ClaimJoined
import GoSem.ClaimMapViews
import Derived.JoinedTies
import Derived.KernelRfl
namespace Go.Proofs.Ytopkpflbhhhdfaa
/- THE CELL 'sum', in the pinned program and in every row, IS THE sha256 OF THE DUMP (.gsa) THAT YtopkpflbhhhdfaaProg.lean LOADS. Nothing in Lean hashes anything: it is a label: what it is worth is what the hold of that sum in a sandbox is worth. -/
noncomputable def Try.pinned : Pinned := { name := "ytopkpflbhhhdfaa", sum := "2a930fb7f8478bf689be08450fa6e75236cabf24a51320b8ac38471813e313a5", checked := Try.checked }
namespace Rows
def none {H : Type} : Left H := { results := [], args := [] }

/-- 'catacomblaw29.SweepLater': WHATEVER THE INPUT: true; the input reads as it did. -/
def sweepLaterSpec : ChangeSpec := { name := "sweepLater", fn := fun _ => fun
  | [d1, d2, d3, d4] => { results := [.lit (.bool true)], args := [d1, d2, d3, d4] }
  | _ => none }
def sweepLaterRow : OpenClaim := { program := "ytopkpflbhhhdfaa", sum := "2a930fb7f8478bf689be08450fa6e75236cabf24a51320b8ac38471813e313a5", func := "catacomb/catacomblaw29.SweepLater", spec := "sweepLater", unfollowed := true, recurses := true, apart := false }
def SweepLaterSaid : Prop := sweepLaterRow.holds Try.pinned (OpenSpec.ofChange sweepLaterSpec)

/-- ITS FALSE NEIGHBOUR: 'it returns false'. Refute it at one input. -/
def sweepLaterWrong : ChangeSpec := { name := "sweepLater", fn := fun _ => fun
  | [d1, d2, d3, d4] => { results := [.lit (.bool false)], args := [d1, d2, d3, d4] }
  | _ => none }
def SweepLaterWrongFalsely : Prop := sweepLaterRow.holds Try.pinned (OpenSpec.ofChange sweepLaterWrong)

/-- 'catacomblaw29.SweepNames': WHATEVER THE INPUT: true; the input reads as it did. -/
def sweepNamesSpec : ChangeSpec := { name := "sweepNames", fn := fun _ => fun
  | [d1, d2, d3, d4] => { results := [.lit (.bool true)], args := [d1, d2, d3, d4] }
  | _ => none }
def sweepNamesRow : OpenClaim := { program := "ytopkpflbhhhdfaa", sum := "2a930fb7f8478bf689be08450fa6e75236cabf24a51320b8ac38471813e313a5", func := "catacomb/catacomblaw29.SweepNames", spec := "sweepNames", unfollowed := true, recurses := true, apart := false }
def SweepNamesSaid : Prop := sweepNamesRow.holds Try.pinned (OpenSpec.ofChange sweepNamesSpec)

/-- ITS FALSE NEIGHBOUR: 'it returns false'. Refute it at one input. -/
def sweepNamesWrong : ChangeSpec := { name := "sweepNames", fn := fun _ => fun
  | [d1, d2, d3, d4] => { results := [.lit (.bool false)], args := [d1, d2, d3, d4] }
  | _ => none }
def SweepNamesWrongFalsely : Prop := sweepNamesRow.holds Try.pinned (OpenSpec.ofChange sweepNamesWrong)

/-- 'catacomblaw29.SweepAll': WHATEVER THE INPUT: true; the input reads as it did. -/
def sweepAllSpec : ChangeSpec := { name := "sweepAll", fn := fun _ => fun
  | [d1, d2, d3] => { results := [.lit (.bool true)], args := [d1, d2, d3] }
  | _ => none }
def sweepAllRow : OpenClaim := { program := "ytopkpflbhhhdfaa", sum := "2a930fb7f8478bf689be08450fa6e75236cabf24a51320b8ac38471813e313a5", func := "catacomb/catacomblaw29.SweepAll", spec := "sweepAll", unfollowed := true, recurses := true, apart := false }
def SweepAllSaid : Prop := sweepAllRow.holds Try.pinned (OpenSpec.ofChange sweepAllSpec)

/-- ITS FALSE NEIGHBOUR: 'it returns false'. Refute it at one input. -/
def sweepAllWrong : ChangeSpec := { name := "sweepAll", fn := fun _ => fun
  | [d1, d2, d3] => { results := [.lit (.bool false)], args := [d1, d2, d3] }
  | _ => none }
def SweepAllWrongFalsely : Prop := sweepAllRow.holds Try.pinned (OpenSpec.ofChange sweepAllWrong)

/-- 'catacomblaw29.SweepClock': WHATEVER THE INPUT: true; the input reads as it did. -/
def sweepClockSpec : ChangeSpec := { name := "sweepClock", fn := fun _ => fun
  | [d1, d2, d3, d4, d5] => { results := [.lit (.bool true)], args := [d1, d2, d3, d4, d5] }
  | _ => none }
def sweepClockRow : OpenClaim := { program := "ytopkpflbhhhdfaa", sum := "2a930fb7f8478bf689be08450fa6e75236cabf24a51320b8ac38471813e313a5", func := "catacomb/catacomblaw29.SweepClock", spec := "sweepClock", unfollowed := true, recurses := true, apart := false }
def SweepClockSaid : Prop := sweepClockRow.holds Try.pinned (OpenSpec.ofChange sweepClockSpec)

/-- ITS FALSE NEIGHBOUR: 'it returns false'. Refute it at one input. -/
def sweepClockWrong : ChangeSpec := { name := "sweepClock", fn := fun _ => fun
  | [d1, d2, d3, d4, d5] => { results := [.lit (.bool false)], args := [d1, d2, d3, d4, d5] }
  | _ => none }
def SweepClockWrongFalsely : Prop := sweepClockRow.holds Try.pinned (OpenSpec.ofChange sweepClockWrong)

/- THE SECOND FORM. 'bulk': how many values and letters a reading holds, each counted each time it is reached (what is shared counts as often as it is met; a slice's spare places count too). A statement '..UptoSaid' is the law's where the arguments, and the package variables that the reading takes, are together of bulk at most 1048576: NARROWER than '..Said'. Prove '..Said' where nothing that the law and all that it calls make is longer than what came in: it says more and counts as full. Else prove '..UptoSaid'. A law counts once. -/
mutual
def uptoBulk {H : Type} : DataW H → Nat
  | .lit (.string bytes) => bytes.length + 1
  | .lit _ => 1
  | .nil => 1
  | .ptr d => uptoBulk d + 1
  | .slice elems spare => uptoBulkAll elems + uptoBulkAll spare + 1
  | .agg parts => uptoBulkAll parts + 1
  | .iface _ d => uptoBulk d + 1
  | .map entries => uptoBulkEntries entries + 1
  | .held _ => 1
def uptoBulkAll {H : Type} : List (DataW H) → Nat
  | [] => 0
  | d :: r => uptoBulk d + uptoBulkAll r
def uptoBulkEntries {H : Type} : List (Lit × DataW H) → Nat
  | [] => 0
  | x :: r => uptoBulkEntry x + uptoBulkEntries r
def uptoBulkEntry {H : Type} : Lit × DataW H → Nat
  | (.string bytes, d) => bytes.length + uptoBulk d + 1
  | (_, d) => uptoBulk d + 1
 end
def uptoSmall : (H : Type) → List (DataW H) → Bool := fun _ ds => decide (uptoBulkAll ds ≤ 1048576)
def OpenSpec.upto (s : _root_.Go.ChangeSpec) : _root_.Go.OpenSpec := { _root_.Go.OpenSpec.ofChange s with cond := some uptoSmall }

/-- 'catacomblaw29.SweepLater', WHERE WHAT IT READS IS OF BULK AT MOST 1048576: true; the input reads as it did. -/
def sweepLaterUptoRow : OpenClaim := { program := "ytopkpflbhhhdfaa", sum := "2a930fb7f8478bf689be08450fa6e75236cabf24a51320b8ac38471813e313a5", func := "catacomb/catacomblaw29.SweepLater", spec := "sweepLater", unfollowed := true, recurses := true, apart := false, narrowed := true }
def SweepLaterUptoSaid : Prop := sweepLaterUptoRow.holds Try.pinned (OpenSpec.upto sweepLaterSpec)

/-- 'catacomblaw29.SweepNames', WHERE WHAT IT READS IS OF BULK AT MOST 1048576: true; the input reads as it did. -/
def sweepNamesUptoRow : OpenClaim := { program := "ytopkpflbhhhdfaa", sum := "2a930fb7f8478bf689be08450fa6e75236cabf24a51320b8ac38471813e313a5", func := "catacomb/catacomblaw29.SweepNames", spec := "sweepNames", unfollowed := true, recurses := true, apart := false, narrowed := true }
def SweepNamesUptoSaid : Prop := sweepNamesUptoRow.holds Try.pinned (OpenSpec.upto sweepNamesSpec)

/-- 'catacomblaw29.SweepAll', WHERE WHAT IT READS IS OF BULK AT MOST 1048576: true; the input reads as it did. -/
def sweepAllUptoRow : OpenClaim := { program := "ytopkpflbhhhdfaa", sum := "2a930fb7f8478bf689be08450fa6e75236cabf24a51320b8ac38471813e313a5", func := "catacomb/catacomblaw29.SweepAll", spec := "sweepAll", unfollowed := true, recurses := true, apart := false, narrowed := true }
def SweepAllUptoSaid : Prop := sweepAllUptoRow.holds Try.pinned (OpenSpec.upto sweepAllSpec)

/-- 'catacomblaw29.SweepClock', WHERE WHAT IT READS IS OF BULK AT MOST 1048576: true; the input reads as it did. -/
def sweepClockUptoRow : OpenClaim := { program := "ytopkpflbhhhdfaa", sum := "2a930fb7f8478bf689be08450fa6e75236cabf24a51320b8ac38471813e313a5", func := "catacomb/catacomblaw29.SweepClock", spec := "sweepClock", unfollowed := true, recurses := true, apart := false, narrowed := true }
def SweepClockUptoSaid : Prop := sweepClockUptoRow.holds Try.pinned (OpenSpec.upto sweepClockSpec)

end Rows
end Go.Proofs.Ytopkpflbhhhdfaa
