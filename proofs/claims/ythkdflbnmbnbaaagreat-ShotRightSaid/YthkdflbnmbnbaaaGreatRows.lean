/-
  No cell of these rows narrows 'for every input' (looked for: loops, veiled, ifaces, maps, wideKeys, modest, calm, conditions, laid).
  DERIVED. THE GIVEN ROWS OF THIS SEAT. 6 by the template 'for every input the law returns true; each argument reads behind the call as it read before'; 0 by the template 'total and deterministic' (their statements: YthkdflbnmbnbaaaGreatTotals.lean).
  GIVEN WITH THE SEED: the statements are not yours to turn. If you find one false, say at which input.
  Laid BY PROGRAM, IN A SANDBOX (cutbox-rows.mjs): the forced cells as the released guide's own fill.sh prints them over the translation 04539c6db10d5afb… (all of the seat's roots in one cut). By AI agents, Wed Nov 11 2026. No macro, syntax, notation, axiom, sorry.
-/
import Derived.Test.YthkdflbnmbnbaaaGreatChecked
import GoSem.Claim
import GoSem.ClaimJoined
import GoSem.ClaimMapViews
import Derived.JoinedTies
import Derived.KernelRfl
namespace Go.Proofs.YthkdflbnmbnbaaaGreat
/- THE CELL 'sum', in the pinned program and in every row, IS THE sha256 OF THE DUMP (.gsa) THAT YthkdflbnmbnbaaaGreatProg.lean LOADS. Nothing in Lean hashes anything: it is a label: what it is worth is what the hold of that sum in a sandbox is worth. -/
noncomputable def Tryz.pinned : Pinned := { name := "ythkdflbnmbnbaaagreat", sum := "04539c6db10d5afbd302f57dcffaa0095643648621fc738d16b99577869fbb7c", checked := Tryz.checked }
namespace Rows
def none {H : Type} : Left H := { results := [], args := [] }

/-- 'catacomblaw10.ShotRight': WHATEVER THE INPUT: true; the input reads as it did. -/
def shotRightSpec : ChangeSpec := { name := "shotRight", fn := fun _ => fun
  | [d1, d2] => { results := [.lit (.bool true)], args := [d1, d2] }
  | _ => none }
def shotRightRow : OpenClaim := { program := "ythkdflbnmbnbaaagreat", sum := "04539c6db10d5afbd302f57dcffaa0095643648621fc738d16b99577869fbb7c", func := "catacomb/catacomblaw10.ShotRight", spec := "shotRight", unfollowed := true, recurses := true, apart := false }
def ShotRightSaid : Prop := shotRightRow.holds Tryz.pinned (OpenSpec.ofChange shotRightSpec)

/-- ITS FALSE NEIGHBOUR: 'it returns false'. Refute it at one input. -/
def shotRightWrong : ChangeSpec := { name := "shotRight", fn := fun _ => fun
  | [d1, d2] => { results := [.lit (.bool false)], args := [d1, d2] }
  | _ => none }
def ShotRightWrongFalsely : Prop := shotRightRow.holds Tryz.pinned (OpenSpec.ofChange shotRightWrong)

/-- 'catacomblaw10.ShotStill': WHATEVER THE INPUT: true; the input reads as it did. -/
def shotStillSpec : ChangeSpec := { name := "shotStill", fn := fun _ => fun
  | [d1, d2] => { results := [.lit (.bool true)], args := [d1, d2] }
  | _ => none }
def shotStillRow : OpenClaim := { program := "ythkdflbnmbnbaaagreat", sum := "04539c6db10d5afbd302f57dcffaa0095643648621fc738d16b99577869fbb7c", func := "catacomb/catacomblaw10.ShotStill", spec := "shotStill", unfollowed := true, recurses := true, apart := false }
def ShotStillSaid : Prop := shotStillRow.holds Tryz.pinned (OpenSpec.ofChange shotStillSpec)

/-- ITS FALSE NEIGHBOUR: 'it returns false'. Refute it at one input. -/
def shotStillWrong : ChangeSpec := { name := "shotStill", fn := fun _ => fun
  | [d1, d2] => { results := [.lit (.bool false)], args := [d1, d2] }
  | _ => none }
def ShotStillWrongFalsely : Prop := shotStillRow.holds Tryz.pinned (OpenSpec.ofChange shotStillWrong)

/-- 'catacomblaw10.ShotTaken': WHATEVER THE INPUT: true; the input reads as it did. -/
def shotTakenSpec : ChangeSpec := { name := "shotTaken", fn := fun _ => fun
  | [d1, d2] => { results := [.lit (.bool true)], args := [d1, d2] }
  | _ => none }
def shotTakenRow : OpenClaim := { program := "ythkdflbnmbnbaaagreat", sum := "04539c6db10d5afbd302f57dcffaa0095643648621fc738d16b99577869fbb7c", func := "catacomb/catacomblaw10.ShotTaken", spec := "shotTaken", unfollowed := true, recurses := true, apart := false }
def ShotTakenSaid : Prop := shotTakenRow.holds Tryz.pinned (OpenSpec.ofChange shotTakenSpec)

/-- ITS FALSE NEIGHBOUR: 'it returns false'. Refute it at one input. -/
def shotTakenWrong : ChangeSpec := { name := "shotTaken", fn := fun _ => fun
  | [d1, d2] => { results := [.lit (.bool false)], args := [d1, d2] }
  | _ => none }
def ShotTakenWrongFalsely : Prop := shotTakenRow.holds Tryz.pinned (OpenSpec.ofChange shotTakenWrong)

/-- 'catacomblaw10.ShotSpare': WHATEVER THE INPUT: true; the input reads as it did. -/
def shotSpareSpec : ChangeSpec := { name := "shotSpare", fn := fun _ => fun
  | [d] => { results := [.lit (.bool true)], args := [d] }
  | _ => none }
def shotSpareRow : OpenClaim := { program := "ythkdflbnmbnbaaagreat", sum := "04539c6db10d5afbd302f57dcffaa0095643648621fc738d16b99577869fbb7c", func := "catacomb/catacomblaw10.ShotSpare", spec := "shotSpare", unfollowed := true, recurses := true, apart := false }
def ShotSpareSaid : Prop := shotSpareRow.holds Tryz.pinned (OpenSpec.ofChange shotSpareSpec)

/-- ITS FALSE NEIGHBOUR: 'it returns false'. Refute it at one input. -/
def shotSpareWrong : ChangeSpec := { name := "shotSpare", fn := fun _ => fun
  | [d] => { results := [.lit (.bool false)], args := [d] }
  | _ => none }
def ShotSpareWrongFalsely : Prop := shotSpareRow.holds Tryz.pinned (OpenSpec.ofChange shotSpareWrong)

/-- 'catacomblaw10.ShotApart': WHATEVER THE INPUT: true; the input reads as it did. -/
def shotApartSpec : ChangeSpec := { name := "shotApart", fn := fun _ => fun
  | [d1, d2] => { results := [.lit (.bool true)], args := [d1, d2] }
  | _ => none }
def shotApartRow : OpenClaim := { program := "ythkdflbnmbnbaaagreat", sum := "04539c6db10d5afbd302f57dcffaa0095643648621fc738d16b99577869fbb7c", func := "catacomb/catacomblaw10.ShotApart", spec := "shotApart", unfollowed := true, recurses := true, apart := false }
def ShotApartSaid : Prop := shotApartRow.holds Tryz.pinned (OpenSpec.ofChange shotApartSpec)

/-- ITS FALSE NEIGHBOUR: 'it returns false'. Refute it at one input. -/
def shotApartWrong : ChangeSpec := { name := "shotApart", fn := fun _ => fun
  | [d1, d2] => { results := [.lit (.bool false)], args := [d1, d2] }
  | _ => none }
def ShotApartWrongFalsely : Prop := shotApartRow.holds Tryz.pinned (OpenSpec.ofChange shotApartWrong)

/-- 'catacomblaw10.ShotQuiet': WHATEVER THE INPUT: true; the input reads as it did. -/
def shotQuietSpec : ChangeSpec := { name := "shotQuiet", fn := fun _ => fun
  | [d1, d2] => { results := [.lit (.bool true)], args := [d1, d2] }
  | _ => none }
def shotQuietRow : OpenClaim := { program := "ythkdflbnmbnbaaagreat", sum := "04539c6db10d5afbd302f57dcffaa0095643648621fc738d16b99577869fbb7c", func := "catacomb/catacomblaw10.ShotQuiet", spec := "shotQuiet", unfollowed := true, recurses := true, apart := false }
def ShotQuietSaid : Prop := shotQuietRow.holds Tryz.pinned (OpenSpec.ofChange shotQuietSpec)

/-- ITS FALSE NEIGHBOUR: 'it returns false'. Refute it at one input. -/
def shotQuietWrong : ChangeSpec := { name := "shotQuiet", fn := fun _ => fun
  | [d1, d2] => { results := [.lit (.bool false)], args := [d1, d2] }
  | _ => none }
def ShotQuietWrongFalsely : Prop := shotQuietRow.holds Tryz.pinned (OpenSpec.ofChange shotQuietWrong)

/- THE SECOND FORM. 'bulk': how many values and letters a reading holds, each counted each time it is reached (what is shared counts as often as it is met; a slice's spare places count too). A statement '..UptoSaid' is the law's where the arguments, and the package variables that the reading takes, are together of bulk at most 1048576: NARROWER than '..Said'. Prove '..Said' where nothing that the law and all that it calls make is longer than what came in: it says more and counts as full. Else prove '..UptoSaid'. A law counts once. -/
mutual
def uptoBulk {H : Type} : DataW H → Nat
  | .lit (.string bytes) => bytes.length + 1
  | .lit _ => 1
  | .nil => 1
  | .ptr d => uptoBulk d + 1
  | .slice elems spare => uptoBulkAll elems + uptoBulkAll spare + 1
  | .agg parts => uptoBulkAll parts + 1
  | .iface _ d => uptoBulk d + 1
  | .map entries => uptoBulkEntries entries + 1
  | .held _ => 1
def uptoBulkAll {H : Type} : List (DataW H) → Nat
  | [] => 0
  | d :: r => uptoBulk d + uptoBulkAll r
def uptoBulkEntries {H : Type} : List (Lit × DataW H) → Nat
  | [] => 0
  | x :: r => uptoBulkEntry x + uptoBulkEntries r
def uptoBulkEntry {H : Type} : Lit × DataW H → Nat
  | (.string bytes, d) => bytes.length + uptoBulk d + 1
  | (_, d) => uptoBulk d + 1
 end
def uptoSmall : (H : Type) → List (DataW H) → Bool := fun _ ds => decide (uptoBulkAll ds ≤ 1048576)
def OpenSpec.upto (s : _root_.Go.ChangeSpec) : _root_.Go.OpenSpec := { _root_.Go.OpenSpec.ofChange s with cond := some uptoSmall }

/-- 'catacomblaw10.ShotRight', WHERE WHAT IT READS IS OF BULK AT MOST 1048576: true; the input reads as it did. -/
def shotRightUptoRow : OpenClaim := { program := "ythkdflbnmbnbaaagreat", sum := "04539c6db10d5afbd302f57dcffaa0095643648621fc738d16b99577869fbb7c", func := "catacomb/catacomblaw10.ShotRight", spec := "shotRight", unfollowed := true, recurses := true, apart := false, narrowed := true }
def ShotRightUptoSaid : Prop := shotRightUptoRow.holds Tryz.pinned (OpenSpec.upto shotRightSpec)

/-- 'catacomblaw10.ShotStill', WHERE WHAT IT READS IS OF BULK AT MOST 1048576: true; the input reads as it did. -/
def shotStillUptoRow : OpenClaim := { program := "ythkdflbnmbnbaaagreat", sum := "04539c6db10d5afbd302f57dcffaa0095643648621fc738d16b99577869fbb7c", func := "catacomb/catacomblaw10.ShotStill", spec := "shotStill", unfollowed := true, recurses := true, apart := false, narrowed := true }
def ShotStillUptoSaid : Prop := shotStillUptoRow.holds Tryz.pinned (OpenSpec.upto shotStillSpec)

/-- 'catacomblaw10.ShotTaken', WHERE WHAT IT READS IS OF BULK AT MOST 1048576: true; the input reads as it did. -/
def shotTakenUptoRow : OpenClaim := { program := "ythkdflbnmbnbaaagreat", sum := "04539c6db10d5afbd302f57dcffaa0095643648621fc738d16b99577869fbb7c", func := "catacomb/catacomblaw10.ShotTaken", spec := "shotTaken", unfollowed := true, recurses := true, apart := false, narrowed := true }
def ShotTakenUptoSaid : Prop := shotTakenUptoRow.holds Tryz.pinned (OpenSpec.upto shotTakenSpec)

/-- 'catacomblaw10.ShotSpare', WHERE WHAT IT READS IS OF BULK AT MOST 1048576: true; the input reads as it did. -/
def shotSpareUptoRow : OpenClaim := { program := "ythkdflbnmbnbaaagreat", sum := "04539c6db10d5afbd302f57dcffaa0095643648621fc738d16b99577869fbb7c", func := "catacomb/catacomblaw10.ShotSpare", spec := "shotSpare", unfollowed := true, recurses := true, apart := false, narrowed := true }
def ShotSpareUptoSaid : Prop := shotSpareUptoRow.holds Tryz.pinned (OpenSpec.upto shotSpareSpec)

/-- 'catacomblaw10.ShotApart', WHERE WHAT IT READS IS OF BULK AT MOST 1048576: true; the input reads as it did. -/
def shotApartUptoRow : OpenClaim := { program := "ythkdflbnmbnbaaagreat", sum := "04539c6db10d5afbd302f57dcffaa0095643648621fc738d16b99577869fbb7c", func := "catacomb/catacomblaw10.ShotApart", spec := "shotApart", unfollowed := true, recurses := true, apart := false, narrowed := true }
def ShotApartUptoSaid : Prop := shotApartUptoRow.holds Tryz.pinned (OpenSpec.upto shotApartSpec)

/-- 'catacomblaw10.ShotQuiet', WHERE WHAT IT READS IS OF BULK AT MOST 1048576: true; the input reads as it did. -/
def shotQuietUptoRow : OpenClaim := { program := "ythkdflbnmbnbaaagreat", sum := "04539c6db10d5afbd302f57dcffaa0095643648621fc738d16b99577869fbb7c", func := "catacomb/catacomblaw10.ShotQuiet", spec := "shotQuiet", unfollowed := true, recurses := true, apart := false, narrowed := true }
def ShotQuietUptoSaid : Prop := shotQuietUptoRow.holds Tryz.pinned (OpenSpec.upto shotQuietSpec)

end Rows
end Go.Proofs.YthkdflbnmbnbaaaGreat
