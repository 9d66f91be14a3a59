/-
  NARROWER THAN 'FOR EVERY INPUT', by the rows' own cells (each row's printed sentence says how): TopListed: laid · TopUnseen: laid · TopThereAndBack: laid · TopClients: laid · TopPacks: laid.
  DERIVED. THE GIVEN ROWS OF THIS SEAT. 5 by the template 'for every input the law returns true; each argument reads behind the call as it read before'; 0 by the template 'total and deterministic' (their statements: YtdcgbodbejgliaaGreatDoorTotals.lean).
  GIVEN WITH THE SEED: the statements are not yours to turn. If you find one false, say at which input.
  Laid BY PROGRAM, IN A SANDBOX (cutbox-rows.mjs): the forced cells as the released guide's own fill.sh prints them over the translation 3c97dc587817cb07… (all of the seat's roots in one cut). By AI agents, Wed Nov 11 2026. No macro, syntax, notation, axiom, sorry.
-/
import Derived.Test.YtdcgbodbejgliaaGreatDoorChecked
import GoSem.Claim
import GoSem.ClaimJoined
import GoSem.ClaimMapViews
import Derived.JoinedTies
import Derived.KernelRfl
namespace Go.Proofs.YtdcgbodbejgliaaGreatDoor
/- THE CELL 'sum', in the pinned program and in every row, IS THE sha256 OF THE DUMP (.gsa) THAT YtdcgbodbejgliaaGreatDoorProg.lean LOADS. Nothing in Lean hashes anything: it is a label: what it is worth is what the hold of that sum in a sandbox is worth. -/
noncomputable def Tryz.pinned : Pinned := { name := "ytdcgbodbejgliaagreatdoor", sum := "3c97dc587817cb07bcc838f027064ee5591d2d82b201aec9b95660a95dfaf58a", checked := Tryz.checked }
namespace Rows
def none {H : Type} : Left H := { results := [], args := [] }

/- WHAT THE LISTED PACKAGE-LEVEL VARIABLES READ AS WHEN THE CALL BEGINS. Each datum BY PROGRAM (the guide's laid-datum.mjs) off the statement by which the dump's own 'gosem.cut.vars' lays the variable. In a bare row this is a premise. The card (YtdcgbodbejgliaaGreatDoorCards.lean) ties it to the program's text. -/
def laid_errors_errorType {H : Type} : DataW H := .iface "internal/reflectlite.rtype" (.agg [.ptr (.lit (.string [101, 114, 114, 111, 114]))])

/-- 'catacombtop.TopListed': WHATEVER THE INPUT: true; the input reads as it did. -/
def topListedSpec : ChangeSpec := { name := "topListed", fn := fun _ => fun
  | [d1, d2] => { results := [.lit (.bool true)], args := [d1, d2] }
  | _ => none }
def topListedRow : OpenClaim := { program := "ytdcgbodbejgliaagreatdoor", sum := "3c97dc587817cb07bcc838f027064ee5591d2d82b201aec9b95660a95dfaf58a", func := "catacomb/catacombtop.TopListed", spec := "topListed", inPlace := ["internal/reflectlite.ValueOf", "(internal/reflectlite.Value).Type", "(internal/reflectlite.Value).IsNil", "internal/reflectlite.TypeOf", "(internal/reflectlite.Value).Elem", "(internal/reflectlite.Value).Set", "internal/bytealg.IndexByteString", "internal/bytealg.abigen_runtime_cmpstring", "internal/abi.NoEscape", "internal/bytealg.MakeNoZero", "slices.overlaps[catacomb/api.Node]", "slices.overlaps[catacomb/api.Ent]", "slices.overlaps[catacomb/api.Hold]", "slices.overlaps[catacomb/api.Quota]"], unfollowed := true, recurses := true, named := ["errors.errorType"], apart := false, laid := [("errors.errorType", laid_errors_errorType)] }
def TopListedSaid : Prop := topListedRow.holds Tryz.pinned (OpenSpec.ofChange topListedSpec)

/-- ITS FALSE NEIGHBOUR: 'it returns false'. Refute it at one input. -/
def topListedWrong : ChangeSpec := { name := "topListed", fn := fun _ => fun
  | [d1, d2] => { results := [.lit (.bool false)], args := [d1, d2] }
  | _ => none }
def TopListedWrongFalsely : Prop := topListedRow.holds Tryz.pinned (OpenSpec.ofChange topListedWrong)

/-- 'catacombtop.TopUnseen': WHATEVER THE INPUT: true; the input reads as it did. -/
def topUnseenSpec : ChangeSpec := { name := "topUnseen", fn := fun _ => fun
  | [d1, d2, d3] => { results := [.lit (.bool true)], args := [d1, d2, d3] }
  | _ => none }
def topUnseenRow : OpenClaim := { program := "ytdcgbodbejgliaagreatdoor", sum := "3c97dc587817cb07bcc838f027064ee5591d2d82b201aec9b95660a95dfaf58a", func := "catacomb/catacombtop.TopUnseen", spec := "topUnseen", inPlace := ["internal/reflectlite.ValueOf", "(internal/reflectlite.Value).Type", "(internal/reflectlite.Value).IsNil", "internal/reflectlite.TypeOf", "(internal/reflectlite.Value).Elem", "(internal/reflectlite.Value).Set", "internal/bytealg.IndexByteString", "internal/bytealg.abigen_runtime_cmpstring", "internal/abi.NoEscape", "internal/bytealg.MakeNoZero", "slices.overlaps[catacomb/api.Node]", "slices.overlaps[catacomb/api.Ent]", "slices.overlaps[catacomb/api.Hold]", "slices.overlaps[catacomb/api.Quota]"], unfollowed := true, recurses := true, named := ["errors.errorType"], apart := false, laid := [("errors.errorType", laid_errors_errorType)] }
def TopUnseenSaid : Prop := topUnseenRow.holds Tryz.pinned (OpenSpec.ofChange topUnseenSpec)

/-- ITS FALSE NEIGHBOUR: 'it returns false'. Refute it at one input. -/
def topUnseenWrong : ChangeSpec := { name := "topUnseen", fn := fun _ => fun
  | [d1, d2, d3] => { results := [.lit (.bool false)], args := [d1, d2, d3] }
  | _ => none }
def TopUnseenWrongFalsely : Prop := topUnseenRow.holds Tryz.pinned (OpenSpec.ofChange topUnseenWrong)

/-- 'catacombtop.TopThereAndBack': WHATEVER THE INPUT: true; the input reads as it did. -/
def topThereAndBackSpec : ChangeSpec := { name := "topThereAndBack", fn := fun _ => fun
  | [d1, d2, d3] => { results := [.lit (.bool true)], args := [d1, d2, d3] }
  | _ => none }
def topThereAndBackRow : OpenClaim := { program := "ytdcgbodbejgliaagreatdoor", sum := "3c97dc587817cb07bcc838f027064ee5591d2d82b201aec9b95660a95dfaf58a", func := "catacomb/catacombtop.TopThereAndBack", spec := "topThereAndBack", inPlace := ["internal/reflectlite.ValueOf", "(internal/reflectlite.Value).Type", "(internal/reflectlite.Value).IsNil", "internal/reflectlite.TypeOf", "(internal/reflectlite.Value).Elem", "(internal/reflectlite.Value).Set", "internal/bytealg.IndexByteString", "internal/bytealg.abigen_runtime_cmpstring", "internal/abi.NoEscape", "internal/bytealg.MakeNoZero", "slices.overlaps[catacomb/api.Node]", "slices.overlaps[catacomb/api.Ent]", "slices.overlaps[catacomb/api.Hold]", "slices.overlaps[catacomb/api.Quota]"], unfollowed := true, recurses := true, named := ["errors.errorType"], apart := false, laid := [("errors.errorType", laid_errors_errorType)] }
def TopThereAndBackSaid : Prop := topThereAndBackRow.holds Tryz.pinned (OpenSpec.ofChange topThereAndBackSpec)

/-- ITS FALSE NEIGHBOUR: 'it returns false'. Refute it at one input. -/
def topThereAndBackWrong : ChangeSpec := { name := "topThereAndBack", fn := fun _ => fun
  | [d1, d2, d3] => { results := [.lit (.bool false)], args := [d1, d2, d3] }
  | _ => none }
def TopThereAndBackWrongFalsely : Prop := topThereAndBackRow.holds Tryz.pinned (OpenSpec.ofChange topThereAndBackWrong)

/-- 'catacombtop.TopClients': WHATEVER THE INPUT: true; the input reads as it did. -/
def topClientsSpec : ChangeSpec := { name := "topClients", fn := fun _ => fun
  | [d] => { results := [.lit (.bool true)], args := [d] }
  | _ => none }
def topClientsRow : OpenClaim := { program := "ytdcgbodbejgliaagreatdoor", sum := "3c97dc587817cb07bcc838f027064ee5591d2d82b201aec9b95660a95dfaf58a", func := "catacomb/catacombtop.TopClients", spec := "topClients", inPlace := ["internal/reflectlite.ValueOf", "(internal/reflectlite.Value).Type", "(internal/reflectlite.Value).IsNil", "internal/reflectlite.TypeOf", "(internal/reflectlite.Value).Elem", "(internal/reflectlite.Value).Set", "internal/bytealg.IndexByteString", "internal/bytealg.abigen_runtime_cmpstring", "internal/abi.NoEscape", "internal/bytealg.MakeNoZero", "slices.overlaps[catacomb/api.Node]", "slices.overlaps[catacomb/api.Ent]", "slices.overlaps[catacomb/api.Hold]", "slices.overlaps[catacomb/api.Quota]"], unfollowed := true, recurses := true, named := ["errors.errorType"], apart := false, laid := [("errors.errorType", laid_errors_errorType)] }
def TopClientsSaid : Prop := topClientsRow.holds Tryz.pinned (OpenSpec.ofChange topClientsSpec)

/-- ITS FALSE NEIGHBOUR: 'it returns false'. Refute it at one input. -/
def topClientsWrong : ChangeSpec := { name := "topClients", fn := fun _ => fun
  | [d] => { results := [.lit (.bool false)], args := [d] }
  | _ => none }
def TopClientsWrongFalsely : Prop := topClientsRow.holds Tryz.pinned (OpenSpec.ofChange topClientsWrong)

/-- 'catacombtop.TopPacks': WHATEVER THE INPUT: true; the input reads as it did. -/
def topPacksSpec : ChangeSpec := { name := "topPacks", fn := fun _ => fun
  | [d] => { results := [.lit (.bool true)], args := [d] }
  | _ => none }
def topPacksRow : OpenClaim := { program := "ytdcgbodbejgliaagreatdoor", sum := "3c97dc587817cb07bcc838f027064ee5591d2d82b201aec9b95660a95dfaf58a", func := "catacomb/catacombtop.TopPacks", spec := "topPacks", inPlace := ["internal/reflectlite.ValueOf", "(internal/reflectlite.Value).Type", "(internal/reflectlite.Value).IsNil", "internal/reflectlite.TypeOf", "(internal/reflectlite.Value).Elem", "(internal/reflectlite.Value).Set", "internal/bytealg.IndexByteString", "internal/bytealg.abigen_runtime_cmpstring", "internal/abi.NoEscape", "internal/bytealg.MakeNoZero", "slices.overlaps[catacomb/api.Node]", "slices.overlaps[catacomb/api.Ent]", "slices.overlaps[catacomb/api.Hold]", "slices.overlaps[catacomb/api.Quota]"], unfollowed := true, recurses := true, named := ["errors.errorType"], apart := false, laid := [("errors.errorType", laid_errors_errorType)] }
def TopPacksSaid : Prop := topPacksRow.holds Tryz.pinned (OpenSpec.ofChange topPacksSpec)

/-- ITS FALSE NEIGHBOUR: 'it returns false'. Refute it at one input. -/
def topPacksWrong : ChangeSpec := { name := "topPacks", fn := fun _ => fun
  | [d] => { results := [.lit (.bool false)], args := [d] }
  | _ => none }
def TopPacksWrongFalsely : Prop := topPacksRow.holds Tryz.pinned (OpenSpec.ofChange topPacksWrong)

/- THE SECOND FORM. 'bulk': how many values and letters a reading holds, each counted each time it is reached (what is shared counts as often as it is met; a slice's spare places count too). A statement '..UptoSaid' is the law's where the arguments, and the package variables that the reading takes, are together of bulk at most 1048576: NARROWER than '..Said'. Prove '..Said' where nothing that the law and all that it calls make is longer than what came in: it says more and counts as full. Else prove '..UptoSaid'. A law counts once. -/
mutual
def uptoBulk {H : Type} : DataW H → Nat
  | .lit (.string bytes) => bytes.length + 1
  | .lit _ => 1
  | .nil => 1
  | .ptr d => uptoBulk d + 1
  | .slice elems spare => uptoBulkAll elems + uptoBulkAll spare + 1
  | .agg parts => uptoBulkAll parts + 1
  | .iface _ d => uptoBulk d + 1
  | .map entries => uptoBulkEntries entries + 1
  | .held _ => 1
def uptoBulkAll {H : Type} : List (DataW H) → Nat
  | [] => 0
  | d :: r => uptoBulk d + uptoBulkAll r
def uptoBulkEntries {H : Type} : List (Lit × DataW H) → Nat
  | [] => 0
  | x :: r => uptoBulkEntry x + uptoBulkEntries r
def uptoBulkEntry {H : Type} : Lit × DataW H → Nat
  | (.string bytes, d) => bytes.length + uptoBulk d + 1
  | (_, d) => uptoBulk d + 1
 end
def uptoSmall : (H : Type) → List (DataW H) → Bool := fun _ ds => decide (uptoBulkAll ds ≤ 1048576)
def OpenSpec.upto (s : _root_.Go.ChangeSpec) : _root_.Go.OpenSpec := { _root_.Go.OpenSpec.ofChange s with cond := some uptoSmall }

/-- 'catacombtop.TopListed', WHERE WHAT IT READS IS OF BULK AT MOST 1048576: true; the input reads as it did. -/
def topListedUptoRow : OpenClaim := { program := "ytdcgbodbejgliaagreatdoor", sum := "3c97dc587817cb07bcc838f027064ee5591d2d82b201aec9b95660a95dfaf58a", func := "catacomb/catacombtop.TopListed", spec := "topListed", inPlace := ["internal/reflectlite.ValueOf", "(internal/reflectlite.Value).Type", "(internal/reflectlite.Value).IsNil", "internal/reflectlite.TypeOf", "(internal/reflectlite.Value).Elem", "(internal/reflectlite.Value).Set", "internal/bytealg.IndexByteString", "internal/bytealg.abigen_runtime_cmpstring", "internal/abi.NoEscape", "internal/bytealg.MakeNoZero", "slices.overlaps[catacomb/api.Node]", "slices.overlaps[catacomb/api.Ent]", "slices.overlaps[catacomb/api.Hold]", "slices.overlaps[catacomb/api.Quota]"], unfollowed := true, recurses := true, named := ["errors.errorType"], apart := false, laid := [("errors.errorType", laid_errors_errorType)], narrowed := true }
def TopListedUptoSaid : Prop := topListedUptoRow.holds Tryz.pinned (OpenSpec.upto topListedSpec)

/-- 'catacombtop.TopUnseen', WHERE WHAT IT READS IS OF BULK AT MOST 1048576: true; the input reads as it did. -/
def topUnseenUptoRow : OpenClaim := { program := "ytdcgbodbejgliaagreatdoor", sum := "3c97dc587817cb07bcc838f027064ee5591d2d82b201aec9b95660a95dfaf58a", func := "catacomb/catacombtop.TopUnseen", spec := "topUnseen", inPlace := ["internal/reflectlite.ValueOf", "(internal/reflectlite.Value).Type", "(internal/reflectlite.Value).IsNil", "internal/reflectlite.TypeOf", "(internal/reflectlite.Value).Elem", "(internal/reflectlite.Value).Set", "internal/bytealg.IndexByteString", "internal/bytealg.abigen_runtime_cmpstring", "internal/abi.NoEscape", "internal/bytealg.MakeNoZero", "slices.overlaps[catacomb/api.Node]", "slices.overlaps[catacomb/api.Ent]", "slices.overlaps[catacomb/api.Hold]", "slices.overlaps[catacomb/api.Quota]"], unfollowed := true, recurses := true, named := ["errors.errorType"], apart := false, laid := [("errors.errorType", laid_errors_errorType)], narrowed := true }
def TopUnseenUptoSaid : Prop := topUnseenUptoRow.holds Tryz.pinned (OpenSpec.upto topUnseenSpec)

/-- 'catacombtop.TopThereAndBack', WHERE WHAT IT READS IS OF BULK AT MOST 1048576: true; the input reads as it did. -/
def topThereAndBackUptoRow : OpenClaim := { program := "ytdcgbodbejgliaagreatdoor", sum := "3c97dc587817cb07bcc838f027064ee5591d2d82b201aec9b95660a95dfaf58a", func := "catacomb/catacombtop.TopThereAndBack", spec := "topThereAndBack", inPlace := ["internal/reflectlite.ValueOf", "(internal/reflectlite.Value).Type", "(internal/reflectlite.Value).IsNil", "internal/reflectlite.TypeOf", "(internal/reflectlite.Value).Elem", "(internal/reflectlite.Value).Set", "internal/bytealg.IndexByteString", "internal/bytealg.abigen_runtime_cmpstring", "internal/abi.NoEscape", "internal/bytealg.MakeNoZero", "slices.overlaps[catacomb/api.Node]", "slices.overlaps[catacomb/api.Ent]", "slices.overlaps[catacomb/api.Hold]", "slices.overlaps[catacomb/api.Quota]"], unfollowed := true, recurses := true, named := ["errors.errorType"], apart := false, laid := [("errors.errorType", laid_errors_errorType)], narrowed := true }
def TopThereAndBackUptoSaid : Prop := topThereAndBackUptoRow.holds Tryz.pinned (OpenSpec.upto topThereAndBackSpec)

/-- 'catacombtop.TopClients', WHERE WHAT IT READS IS OF BULK AT MOST 1048576: true; the input reads as it did. -/
def topClientsUptoRow : OpenClaim := { program := "ytdcgbodbejgliaagreatdoor", sum := "3c97dc587817cb07bcc838f027064ee5591d2d82b201aec9b95660a95dfaf58a", func := "catacomb/catacombtop.TopClients", spec := "topClients", inPlace := ["internal/reflectlite.ValueOf", "(internal/reflectlite.Value).Type", "(internal/reflectlite.Value).IsNil", "internal/reflectlite.TypeOf", "(internal/reflectlite.Value).Elem", "(internal/reflectlite.Value).Set", "internal/bytealg.IndexByteString", "internal/bytealg.abigen_runtime_cmpstring", "internal/abi.NoEscape", "internal/bytealg.MakeNoZero", "slices.overlaps[catacomb/api.Node]", "slices.overlaps[catacomb/api.Ent]", "slices.overlaps[catacomb/api.Hold]", "slices.overlaps[catacomb/api.Quota]"], unfollowed := true, recurses := true, named := ["errors.errorType"], apart := false, laid := [("errors.errorType", laid_errors_errorType)], narrowed := true }
def TopClientsUptoSaid : Prop := topClientsUptoRow.holds Tryz.pinned (OpenSpec.upto topClientsSpec)

/-- 'catacombtop.TopPacks', WHERE WHAT IT READS IS OF BULK AT MOST 1048576: true; the input reads as it did. -/
def topPacksUptoRow : OpenClaim := { program := "ytdcgbodbejgliaagreatdoor", sum := "3c97dc587817cb07bcc838f027064ee5591d2d82b201aec9b95660a95dfaf58a", func := "catacomb/catacombtop.TopPacks", spec := "topPacks", inPlace := ["internal/reflectlite.ValueOf", "(internal/reflectlite.Value).Type", "(internal/reflectlite.Value).IsNil", "internal/reflectlite.TypeOf", "(internal/reflectlite.Value).Elem", "(internal/reflectlite.Value).Set", "internal/bytealg.IndexByteString", "internal/bytealg.abigen_runtime_cmpstring", "internal/abi.NoEscape", "internal/bytealg.MakeNoZero", "slices.overlaps[catacomb/api.Node]", "slices.overlaps[catacomb/api.Ent]", "slices.overlaps[catacomb/api.Hold]", "slices.overlaps[catacomb/api.Quota]"], unfollowed := true, recurses := true, named := ["errors.errorType"], apart := false, laid := [("errors.errorType", laid_errors_errorType)], narrowed := true }
def TopPacksUptoSaid : Prop := topPacksUptoRow.holds Tryz.pinned (OpenSpec.upto topPacksSpec)

end Rows
end Go.Proofs.YtdcgbodbejgliaaGreatDoor
