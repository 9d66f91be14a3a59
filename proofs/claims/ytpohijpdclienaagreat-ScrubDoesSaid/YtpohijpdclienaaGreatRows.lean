/-
  No cell of these rows narrows 'for every input' (looked for: loops, veiled, ifaces, maps, wideKeys, modest, calm, conditions, laid).
  DERIVED. THE GIVEN ROWS OF THIS SEAT. 6 by the template 'for every input the law returns true; each argument reads behind the call as it read before'; 0 by the template 'total and deterministic' (their statements: YtpohijpdclienaaGreatTotals.lean).
  GIVEN WITH THE SEED: the statements are not yours to turn. If you find one false, say at which input.
  Laid BY PROGRAM, IN A SANDBOX (cutbox-rows.mjs): the forced cells as the released guide's own fill.sh prints them over the translation 1fc6733148d1c624… (all of the seat's roots in one cut). By AI agents, Wed Nov 11 2026. No macro, syntax, notation, axiom, sorry.
-/
import Derived.Test.YtpohijpdclienaaGreatChecked
import GoSem.Claim
import GoSem.ClaimJoined
import GoSem.ClaimMapViews
import Derived.JoinedTies
import Derived.KernelRfl
namespace Go.Proofs.YtpohijpdclienaaGreat
/- THE CELL 'sum', in the pinned program and in every row, IS THE sha256 OF THE DUMP (.gsa) THAT YtpohijpdclienaaGreatProg.lean LOADS. Nothing in Lean hashes anything: it is a label: what it is worth is what the hold of that sum in a sandbox is worth. -/
noncomputable def Tryz.pinned : Pinned := { name := "ytpohijpdclienaagreat", sum := "1fc6733148d1c6244a7493c04b495c999476a743cb46786a015e97e1c099124c", checked := Tryz.checked }
namespace Rows
def none {H : Type} : Left H := { results := [], args := [] }

/-- 'catacomblaw27.ScrubTells': WHATEVER THE INPUT: true; the input reads as it did. -/
def scrubTellsSpec : ChangeSpec := { name := "scrubTells", fn := fun _ => fun
  | [d1, d2] => { results := [.lit (.bool true)], args := [d1, d2] }
  | _ => none }
def scrubTellsRow : OpenClaim := { program := "ytpohijpdclienaagreat", sum := "1fc6733148d1c6244a7493c04b495c999476a743cb46786a015e97e1c099124c", func := "catacomb/catacomblaw27.ScrubTells", spec := "scrubTells", unfollowed := true, recurses := true, apart := false }
def ScrubTellsSaid : Prop := scrubTellsRow.holds Tryz.pinned (OpenSpec.ofChange scrubTellsSpec)

/-- ITS FALSE NEIGHBOUR: 'it returns false'. Refute it at one input. -/
def scrubTellsWrong : ChangeSpec := { name := "scrubTells", fn := fun _ => fun
  | [d1, d2] => { results := [.lit (.bool false)], args := [d1, d2] }
  | _ => none }
def ScrubTellsWrongFalsely : Prop := scrubTellsRow.holds Tryz.pinned (OpenSpec.ofChange scrubTellsWrong)

/-- 'catacomblaw27.ScrubDoes': WHATEVER THE INPUT: true; the input reads as it did. -/
def scrubDoesSpec : ChangeSpec := { name := "scrubDoes", fn := fun _ => fun
  | [d1, d2, d3] => { results := [.lit (.bool true)], args := [d1, d2, d3] }
  | _ => none }
def scrubDoesRow : OpenClaim := { program := "ytpohijpdclienaagreat", sum := "1fc6733148d1c6244a7493c04b495c999476a743cb46786a015e97e1c099124c", func := "catacomb/catacomblaw27.ScrubDoes", spec := "scrubDoes", unfollowed := true, recurses := true, apart := false }
def ScrubDoesSaid : Prop := scrubDoesRow.holds Tryz.pinned (OpenSpec.ofChange scrubDoesSpec)

/-- ITS FALSE NEIGHBOUR: 'it returns false'. Refute it at one input. -/
def scrubDoesWrong : ChangeSpec := { name := "scrubDoes", fn := fun _ => fun
  | [d1, d2, d3] => { results := [.lit (.bool false)], args := [d1, d2, d3] }
  | _ => none }
def ScrubDoesWrongFalsely : Prop := scrubDoesRow.holds Tryz.pinned (OpenSpec.ofChange scrubDoesWrong)

/-- 'catacomblaw27.ScrubAll': WHATEVER THE INPUT: true; the input reads as it did. -/
def scrubAllSpec : ChangeSpec := { name := "scrubAll", fn := fun _ => fun
  | [d1, d2, d3] => { results := [.lit (.bool true)], args := [d1, d2, d3] }
  | _ => none }
def scrubAllRow : OpenClaim := { program := "ytpohijpdclienaagreat", sum := "1fc6733148d1c6244a7493c04b495c999476a743cb46786a015e97e1c099124c", func := "catacomb/catacomblaw27.ScrubAll", spec := "scrubAll", unfollowed := true, recurses := true, apart := false }
def ScrubAllSaid : Prop := scrubAllRow.holds Tryz.pinned (OpenSpec.ofChange scrubAllSpec)

/-- ITS FALSE NEIGHBOUR: 'it returns false'. Refute it at one input. -/
def scrubAllWrong : ChangeSpec := { name := "scrubAll", fn := fun _ => fun
  | [d1, d2, d3] => { results := [.lit (.bool false)], args := [d1, d2, d3] }
  | _ => none }
def ScrubAllWrongFalsely : Prop := scrubAllRow.holds Tryz.pinned (OpenSpec.ofChange scrubAllWrong)

/-- 'catacomblaw27.ScrubMends': WHATEVER THE INPUT: true; the input reads as it did. -/
def scrubMendsSpec : ChangeSpec := { name := "scrubMends", fn := fun _ => fun
  | [d1, d2] => { results := [.lit (.bool true)], args := [d1, d2] }
  | _ => none }
def scrubMendsRow : OpenClaim := { program := "ytpohijpdclienaagreat", sum := "1fc6733148d1c6244a7493c04b495c999476a743cb46786a015e97e1c099124c", func := "catacomb/catacomblaw27.ScrubMends", spec := "scrubMends", unfollowed := true, recurses := true, apart := false }
def ScrubMendsSaid : Prop := scrubMendsRow.holds Tryz.pinned (OpenSpec.ofChange scrubMendsSpec)

/-- ITS FALSE NEIGHBOUR: 'it returns false'. Refute it at one input. -/
def scrubMendsWrong : ChangeSpec := { name := "scrubMends", fn := fun _ => fun
  | [d1, d2] => { results := [.lit (.bool false)], args := [d1, d2] }
  | _ => none }
def ScrubMendsWrongFalsely : Prop := scrubMendsRow.holds Tryz.pinned (OpenSpec.ofChange scrubMendsWrong)

/-- 'catacomblaw27.ScrubClean': WHATEVER THE INPUT: true; the input reads as it did. -/
def scrubCleanSpec : ChangeSpec := { name := "scrubClean", fn := fun _ => fun
  | [d1, d2] => { results := [.lit (.bool true)], args := [d1, d2] }
  | _ => none }
def scrubCleanRow : OpenClaim := { program := "ytpohijpdclienaagreat", sum := "1fc6733148d1c6244a7493c04b495c999476a743cb46786a015e97e1c099124c", func := "catacomb/catacomblaw27.ScrubClean", spec := "scrubClean", unfollowed := true, recurses := true, apart := false }
def ScrubCleanSaid : Prop := scrubCleanRow.holds Tryz.pinned (OpenSpec.ofChange scrubCleanSpec)

/-- ITS FALSE NEIGHBOUR: 'it returns false'. Refute it at one input. -/
def scrubCleanWrong : ChangeSpec := { name := "scrubClean", fn := fun _ => fun
  | [d1, d2] => { results := [.lit (.bool false)], args := [d1, d2] }
  | _ => none }
def ScrubCleanWrongFalsely : Prop := scrubCleanRow.holds Tryz.pinned (OpenSpec.ofChange scrubCleanWrong)

/-- 'catacomblaw27.ScrubOrder': WHATEVER THE INPUT: true; the input reads as it did. -/
def scrubOrderSpec : ChangeSpec := { name := "scrubOrder", fn := fun _ => fun
  | [d1, d2] => { results := [.lit (.bool true)], args := [d1, d2] }
  | _ => none }
def scrubOrderRow : OpenClaim := { program := "ytpohijpdclienaagreat", sum := "1fc6733148d1c6244a7493c04b495c999476a743cb46786a015e97e1c099124c", func := "catacomb/catacomblaw27.ScrubOrder", spec := "scrubOrder", unfollowed := true, recurses := true, apart := false }
def ScrubOrderSaid : Prop := scrubOrderRow.holds Tryz.pinned (OpenSpec.ofChange scrubOrderSpec)

/-- ITS FALSE NEIGHBOUR: 'it returns false'. Refute it at one input. -/
def scrubOrderWrong : ChangeSpec := { name := "scrubOrder", fn := fun _ => fun
  | [d1, d2] => { results := [.lit (.bool false)], args := [d1, d2] }
  | _ => none }
def ScrubOrderWrongFalsely : Prop := scrubOrderRow.holds Tryz.pinned (OpenSpec.ofChange scrubOrderWrong)

/- THE SECOND FORM. 'bulk': how many values and letters a reading holds, each counted each time it is reached (what is shared counts as often as it is met; a slice's spare places count too). A statement '..UptoSaid' is the law's where the arguments, and the package variables that the reading takes, are together of bulk at most 1048576: NARROWER than '..Said'. Prove '..Said' where nothing that the law and all that it calls make is longer than what came in: it says more and counts as full. Else prove '..UptoSaid'. A law counts once. -/
mutual
def uptoBulk {H : Type} : DataW H → Nat
  | .lit (.string bytes) => bytes.length + 1
  | .lit _ => 1
  | .nil => 1
  | .ptr d => uptoBulk d + 1
  | .slice elems spare => uptoBulkAll elems + uptoBulkAll spare + 1
  | .agg parts => uptoBulkAll parts + 1
  | .iface _ d => uptoBulk d + 1
  | .map entries => uptoBulkEntries entries + 1
  | .held _ => 1
def uptoBulkAll {H : Type} : List (DataW H) → Nat
  | [] => 0
  | d :: r => uptoBulk d + uptoBulkAll r
def uptoBulkEntries {H : Type} : List (Lit × DataW H) → Nat
  | [] => 0
  | x :: r => uptoBulkEntry x + uptoBulkEntries r
def uptoBulkEntry {H : Type} : Lit × DataW H → Nat
  | (.string bytes, d) => bytes.length + uptoBulk d + 1
  | (_, d) => uptoBulk d + 1
 end
def uptoSmall : (H : Type) → List (DataW H) → Bool := fun _ ds => decide (uptoBulkAll ds ≤ 1048576)
def OpenSpec.upto (s : _root_.Go.ChangeSpec) : _root_.Go.OpenSpec := { _root_.Go.OpenSpec.ofChange s with cond := some uptoSmall }

/-- 'catacomblaw27.ScrubTells', WHERE WHAT IT READS IS OF BULK AT MOST 1048576: true; the input reads as it did. -/
def scrubTellsUptoRow : OpenClaim := { program := "ytpohijpdclienaagreat", sum := "1fc6733148d1c6244a7493c04b495c999476a743cb46786a015e97e1c099124c", func := "catacomb/catacomblaw27.ScrubTells", spec := "scrubTells", unfollowed := true, recurses := true, apart := false, narrowed := true }
def ScrubTellsUptoSaid : Prop := scrubTellsUptoRow.holds Tryz.pinned (OpenSpec.upto scrubTellsSpec)

/-- 'catacomblaw27.ScrubDoes', WHERE WHAT IT READS IS OF BULK AT MOST 1048576: true; the input reads as it did. -/
def scrubDoesUptoRow : OpenClaim := { program := "ytpohijpdclienaagreat", sum := "1fc6733148d1c6244a7493c04b495c999476a743cb46786a015e97e1c099124c", func := "catacomb/catacomblaw27.ScrubDoes", spec := "scrubDoes", unfollowed := true, recurses := true, apart := false, narrowed := true }
def ScrubDoesUptoSaid : Prop := scrubDoesUptoRow.holds Tryz.pinned (OpenSpec.upto scrubDoesSpec)

/-- 'catacomblaw27.ScrubAll', WHERE WHAT IT READS IS OF BULK AT MOST 1048576: true; the input reads as it did. -/
def scrubAllUptoRow : OpenClaim := { program := "ytpohijpdclienaagreat", sum := "1fc6733148d1c6244a7493c04b495c999476a743cb46786a015e97e1c099124c", func := "catacomb/catacomblaw27.ScrubAll", spec := "scrubAll", unfollowed := true, recurses := true, apart := false, narrowed := true }
def ScrubAllUptoSaid : Prop := scrubAllUptoRow.holds Tryz.pinned (OpenSpec.upto scrubAllSpec)

/-- 'catacomblaw27.ScrubMends', WHERE WHAT IT READS IS OF BULK AT MOST 1048576: true; the input reads as it did. -/
def scrubMendsUptoRow : OpenClaim := { program := "ytpohijpdclienaagreat", sum := "1fc6733148d1c6244a7493c04b495c999476a743cb46786a015e97e1c099124c", func := "catacomb/catacomblaw27.ScrubMends", spec := "scrubMends", unfollowed := true, recurses := true, apart := false, narrowed := true }
def ScrubMendsUptoSaid : Prop := scrubMendsUptoRow.holds Tryz.pinned (OpenSpec.upto scrubMendsSpec)

/-- 'catacomblaw27.ScrubClean', WHERE WHAT IT READS IS OF BULK AT MOST 1048576: true; the input reads as it did. -/
def scrubCleanUptoRow : OpenClaim := { program := "ytpohijpdclienaagreat", sum := "1fc6733148d1c6244a7493c04b495c999476a743cb46786a015e97e1c099124c", func := "catacomb/catacomblaw27.ScrubClean", spec := "scrubClean", unfollowed := true, recurses := true, apart := false, narrowed := true }
def ScrubCleanUptoSaid : Prop := scrubCleanUptoRow.holds Tryz.pinned (OpenSpec.upto scrubCleanSpec)

/-- 'catacomblaw27.ScrubOrder', WHERE WHAT IT READS IS OF BULK AT MOST 1048576: true; the input reads as it did. -/
def scrubOrderUptoRow : OpenClaim := { program := "ytpohijpdclienaagreat", sum := "1fc6733148d1c6244a7493c04b495c999476a743cb46786a015e97e1c099124c", func := "catacomb/catacomblaw27.ScrubOrder", spec := "scrubOrder", unfollowed := true, recurses := true, apart := false, narrowed := true }
def ScrubOrderUptoSaid : Prop := scrubOrderUptoRow.holds Tryz.pinned (OpenSpec.upto scrubOrderSpec)

end Rows
end Go.Proofs.YtpohijpdclienaaGreat
