/-
  No cell of these rows narrows 'for every input' (looked for: loops, veiled, ifaces, maps, wideKeys, modest, calm, conditions, laid).
  DERIVED. THE GIVEN ROWS OF THIS SEAT. 6 by the template 'for every input the law returns true; each argument reads behind the call as it read before'; 0 by the template 'total and deterministic' (their statements: YtlhgbjgfnihijaaTotals.lean).
  GIVEN WITH THE SEED: the statements are not yours to turn. If you find one false, say at which input.
  Laid BY PROGRAM, IN A SANDBOX (cutbox-rows.mjs): the forced cells as the released guide's own fill.sh prints them over the translation b0e3fef329159c32… (all of the seat's roots in one cut). By AI agents, Wed Nov 11 2026. No macro, syntax, notation, axiom, sorry.
-/
import Derived.Test.YtlhgbjgfnihijaaChecked
import GoSem.Claim
import GoSem.ClaimJoined
import GoSem.ClaimMapViews
import Derived.JoinedTies
import Derived.KernelRfl
namespace Go.Proofs.Ytlhgbjgfnihijaa
/- THE CELL 'sum', in the pinned program and in every row, IS THE sha256 OF THE DUMP (.gsa) THAT YtlhgbjgfnihijaaProg.lean LOADS. Nothing in Lean hashes anything: it is a label: what it is worth is what the hold of that sum in a sandbox is worth. -/
noncomputable def Try.pinned : Pinned := { name := "ytlhgbjgfnihijaa", sum := "b0e3fef329159c32a378e028c4cc08f4b1af4146a49c04e78529e5122c63ee99", checked := Try.checked }
namespace Rows
def none {H : Type} : Left H := { results := [], args := [] }

/-- 'catacomblaw04.DiskTells': WHATEVER THE INPUT: true; the input reads as it did. -/
def diskTellsSpec : ChangeSpec := { name := "diskTells", fn := fun _ => fun
  | [d1, d2, d3] => { results := [.lit (.bool true)], args := [d1, d2, d3] }
  | _ => none }
def diskTellsRow : OpenClaim := { program := "ytlhgbjgfnihijaa", sum := "b0e3fef329159c32a378e028c4cc08f4b1af4146a49c04e78529e5122c63ee99", func := "catacomb/catacomblaw04.DiskTells", spec := "diskTells", unfollowed := true, recurses := true, apart := false }
def DiskTellsSaid : Prop := diskTellsRow.holds Try.pinned (OpenSpec.ofChange diskTellsSpec)

/-- ITS FALSE NEIGHBOUR: 'it returns false'. Refute it at one input. -/
def diskTellsWrong : ChangeSpec := { name := "diskTells", fn := fun _ => fun
  | [d1, d2, d3] => { results := [.lit (.bool false)], args := [d1, d2, d3] }
  | _ => none }
def DiskTellsWrongFalsely : Prop := diskTellsRow.holds Try.pinned (OpenSpec.ofChange diskTellsWrong)

/-- 'catacomblaw04.DiskWritten': WHATEVER THE INPUT: true; the input reads as it did. -/
def diskWrittenSpec : ChangeSpec := { name := "diskWritten", fn := fun _ => fun
  | [d1, d2, d3, d4] => { results := [.lit (.bool true)], args := [d1, d2, d3, d4] }
  | _ => none }
def diskWrittenRow : OpenClaim := { program := "ytlhgbjgfnihijaa", sum := "b0e3fef329159c32a378e028c4cc08f4b1af4146a49c04e78529e5122c63ee99", func := "catacomb/catacomblaw04.DiskWritten", spec := "diskWritten", unfollowed := true, recurses := true, apart := false }
def DiskWrittenSaid : Prop := diskWrittenRow.holds Try.pinned (OpenSpec.ofChange diskWrittenSpec)

/-- ITS FALSE NEIGHBOUR: 'it returns false'. Refute it at one input. -/
def diskWrittenWrong : ChangeSpec := { name := "diskWritten", fn := fun _ => fun
  | [d1, d2, d3, d4] => { results := [.lit (.bool false)], args := [d1, d2, d3, d4] }
  | _ => none }
def DiskWrittenWrongFalsely : Prop := diskWrittenRow.holds Try.pinned (OpenSpec.ofChange diskWrittenWrong)

/-- 'catacomblaw04.DiskSure': WHATEVER THE INPUT: true; the input reads as it did. -/
def diskSureSpec : ChangeSpec := { name := "diskSure", fn := fun _ => fun
  | [d1, d2, d3] => { results := [.lit (.bool true)], args := [d1, d2, d3] }
  | _ => none }
def diskSureRow : OpenClaim := { program := "ytlhgbjgfnihijaa", sum := "b0e3fef329159c32a378e028c4cc08f4b1af4146a49c04e78529e5122c63ee99", func := "catacomb/catacomblaw04.DiskSure", spec := "diskSure", unfollowed := true, recurses := true, apart := false }
def DiskSureSaid : Prop := diskSureRow.holds Try.pinned (OpenSpec.ofChange diskSureSpec)

/-- ITS FALSE NEIGHBOUR: 'it returns false'. Refute it at one input. -/
def diskSureWrong : ChangeSpec := { name := "diskSure", fn := fun _ => fun
  | [d1, d2, d3] => { results := [.lit (.bool false)], args := [d1, d2, d3] }
  | _ => none }
def DiskSureWrongFalsely : Prop := diskSureRow.holds Try.pinned (OpenSpec.ofChange diskSureWrong)

/-- 'catacomblaw04.DiskFirst': WHATEVER THE INPUT: true; the input reads as it did. -/
def diskFirstSpec : ChangeSpec := { name := "diskFirst", fn := fun _ => fun
  | [d1, d2, d3, d4] => { results := [.lit (.bool true)], args := [d1, d2, d3, d4] }
  | _ => none }
def diskFirstRow : OpenClaim := { program := "ytlhgbjgfnihijaa", sum := "b0e3fef329159c32a378e028c4cc08f4b1af4146a49c04e78529e5122c63ee99", func := "catacomb/catacomblaw04.DiskFirst", spec := "diskFirst", unfollowed := true, recurses := true, apart := false }
def DiskFirstSaid : Prop := diskFirstRow.holds Try.pinned (OpenSpec.ofChange diskFirstSpec)

/-- ITS FALSE NEIGHBOUR: 'it returns false'. Refute it at one input. -/
def diskFirstWrong : ChangeSpec := { name := "diskFirst", fn := fun _ => fun
  | [d1, d2, d3, d4] => { results := [.lit (.bool false)], args := [d1, d2, d3, d4] }
  | _ => none }
def DiskFirstWrongFalsely : Prop := diskFirstRow.holds Try.pinned (OpenSpec.ofChange diskFirstWrong)

/-- 'catacomblaw04.DiskRot': WHATEVER THE INPUT: true; the input reads as it did. -/
def diskRotSpec : ChangeSpec := { name := "diskRot", fn := fun _ => fun
  | [d1, d2, d3, d4] => { results := [.lit (.bool true)], args := [d1, d2, d3, d4] }
  | _ => none }
def diskRotRow : OpenClaim := { program := "ytlhgbjgfnihijaa", sum := "b0e3fef329159c32a378e028c4cc08f4b1af4146a49c04e78529e5122c63ee99", func := "catacomb/catacomblaw04.DiskRot", spec := "diskRot", unfollowed := true, recurses := true, apart := false }
def DiskRotSaid : Prop := diskRotRow.holds Try.pinned (OpenSpec.ofChange diskRotSpec)

/-- ITS FALSE NEIGHBOUR: 'it returns false'. Refute it at one input. -/
def diskRotWrong : ChangeSpec := { name := "diskRot", fn := fun _ => fun
  | [d1, d2, d3, d4] => { results := [.lit (.bool false)], args := [d1, d2, d3, d4] }
  | _ => none }
def DiskRotWrongFalsely : Prop := diskRotRow.holds Try.pinned (OpenSpec.ofChange diskRotWrong)

/-- 'catacomblaw04.DiskDown': WHATEVER THE INPUT: true; the input reads as it did. -/
def diskDownSpec : ChangeSpec := { name := "diskDown", fn := fun _ => fun
  | [d1, d2, d3, d4] => { results := [.lit (.bool true)], args := [d1, d2, d3, d4] }
  | _ => none }
def diskDownRow : OpenClaim := { program := "ytlhgbjgfnihijaa", sum := "b0e3fef329159c32a378e028c4cc08f4b1af4146a49c04e78529e5122c63ee99", func := "catacomb/catacomblaw04.DiskDown", spec := "diskDown", unfollowed := true, recurses := true, apart := false }
def DiskDownSaid : Prop := diskDownRow.holds Try.pinned (OpenSpec.ofChange diskDownSpec)

/-- ITS FALSE NEIGHBOUR: 'it returns false'. Refute it at one input. -/
def diskDownWrong : ChangeSpec := { name := "diskDown", fn := fun _ => fun
  | [d1, d2, d3, d4] => { results := [.lit (.bool false)], args := [d1, d2, d3, d4] }
  | _ => none }
def DiskDownWrongFalsely : Prop := diskDownRow.holds Try.pinned (OpenSpec.ofChange diskDownWrong)

/- THE SECOND FORM. 'bulk': how many values and letters a reading holds, each counted each time it is reached (what is shared counts as often as it is met; a slice's spare places count too). A statement '..UptoSaid' is the law's where the arguments, and the package variables that the reading takes, are together of bulk at most 1048576: NARROWER than '..Said'. Prove '..Said' where nothing that the law and all that it calls make is longer than what came in: it says more and counts as full. Else prove '..UptoSaid'. A law counts once. -/
mutual
def uptoBulk {H : Type} : DataW H → Nat
  | .lit (.string bytes) => bytes.length + 1
  | .lit _ => 1
  | .nil => 1
  | .ptr d => uptoBulk d + 1
  | .slice elems spare => uptoBulkAll elems + uptoBulkAll spare + 1
  | .agg parts => uptoBulkAll parts + 1
  | .iface _ d => uptoBulk d + 1
  | .map entries => uptoBulkEntries entries + 1
  | .held _ => 1
def uptoBulkAll {H : Type} : List (DataW H) → Nat
  | [] => 0
  | d :: r => uptoBulk d + uptoBulkAll r
def uptoBulkEntries {H : Type} : List (Lit × DataW H) → Nat
  | [] => 0
  | x :: r => uptoBulkEntry x + uptoBulkEntries r
def uptoBulkEntry {H : Type} : Lit × DataW H → Nat
  | (.string bytes, d) => bytes.length + uptoBulk d + 1
  | (_, d) => uptoBulk d + 1
 end
def uptoSmall : (H : Type) → List (DataW H) → Bool := fun _ ds => decide (uptoBulkAll ds ≤ 1048576)
def OpenSpec.upto (s : _root_.Go.ChangeSpec) : _root_.Go.OpenSpec := { _root_.Go.OpenSpec.ofChange s with cond := some uptoSmall }

/-- 'catacomblaw04.DiskTells', WHERE WHAT IT READS IS OF BULK AT MOST 1048576: true; the input reads as it did. -/
def diskTellsUptoRow : OpenClaim := { program := "ytlhgbjgfnihijaa", sum := "b0e3fef329159c32a378e028c4cc08f4b1af4146a49c04e78529e5122c63ee99", func := "catacomb/catacomblaw04.DiskTells", spec := "diskTells", unfollowed := true, recurses := true, apart := false, narrowed := true }
def DiskTellsUptoSaid : Prop := diskTellsUptoRow.holds Try.pinned (OpenSpec.upto diskTellsSpec)

/-- 'catacomblaw04.DiskWritten', WHERE WHAT IT READS IS OF BULK AT MOST 1048576: true; the input reads as it did. -/
def diskWrittenUptoRow : OpenClaim := { program := "ytlhgbjgfnihijaa", sum := "b0e3fef329159c32a378e028c4cc08f4b1af4146a49c04e78529e5122c63ee99", func := "catacomb/catacomblaw04.DiskWritten", spec := "diskWritten", unfollowed := true, recurses := true, apart := false, narrowed := true }
def DiskWrittenUptoSaid : Prop := diskWrittenUptoRow.holds Try.pinned (OpenSpec.upto diskWrittenSpec)

/-- 'catacomblaw04.DiskSure', WHERE WHAT IT READS IS OF BULK AT MOST 1048576: true; the input reads as it did. -/
def diskSureUptoRow : OpenClaim := { program := "ytlhgbjgfnihijaa", sum := "b0e3fef329159c32a378e028c4cc08f4b1af4146a49c04e78529e5122c63ee99", func := "catacomb/catacomblaw04.DiskSure", spec := "diskSure", unfollowed := true, recurses := true, apart := false, narrowed := true }
def DiskSureUptoSaid : Prop := diskSureUptoRow.holds Try.pinned (OpenSpec.upto diskSureSpec)

/-- 'catacomblaw04.DiskFirst', WHERE WHAT IT READS IS OF BULK AT MOST 1048576: true; the input reads as it did. -/
def diskFirstUptoRow : OpenClaim := { program := "ytlhgbjgfnihijaa", sum := "b0e3fef329159c32a378e028c4cc08f4b1af4146a49c04e78529e5122c63ee99", func := "catacomb/catacomblaw04.DiskFirst", spec := "diskFirst", unfollowed := true, recurses := true, apart := false, narrowed := true }
def DiskFirstUptoSaid : Prop := diskFirstUptoRow.holds Try.pinned (OpenSpec.upto diskFirstSpec)

/-- 'catacomblaw04.DiskRot', WHERE WHAT IT READS IS OF BULK AT MOST 1048576: true; the input reads as it did. -/
def diskRotUptoRow : OpenClaim := { program := "ytlhgbjgfnihijaa", sum := "b0e3fef329159c32a378e028c4cc08f4b1af4146a49c04e78529e5122c63ee99", func := "catacomb/catacomblaw04.DiskRot", spec := "diskRot", unfollowed := true, recurses := true, apart := false, narrowed := true }
def DiskRotUptoSaid : Prop := diskRotUptoRow.holds Try.pinned (OpenSpec.upto diskRotSpec)

/-- 'catacomblaw04.DiskDown', WHERE WHAT IT READS IS OF BULK AT MOST 1048576: true; the input reads as it did. -/
def diskDownUptoRow : OpenClaim := { program := "ytlhgbjgfnihijaa", sum := "b0e3fef329159c32a378e028c4cc08f4b1af4146a49c04e78529e5122c63ee99", func := "catacomb/catacomblaw04.DiskDown", spec := "diskDown", unfollowed := true, recurses := true, apart := false, narrowed := true }
def DiskDownUptoSaid : Prop := diskDownUptoRow.holds Try.pinned (OpenSpec.upto diskDownSpec)

end Rows
end Go.Proofs.Ytlhgbjgfnihijaa
