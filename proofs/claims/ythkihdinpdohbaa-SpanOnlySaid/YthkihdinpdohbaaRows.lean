/-
  No cell of these rows narrows 'for every input' (looked for: loops, veiled, ifaces, maps, wideKeys, modest, calm, conditions, laid).
  DERIVED. THE GIVEN ROWS OF THIS SEAT. 6 by the template 'for every input the law returns true; each argument reads behind the call as it read before'; 0 by the template 'total and deterministic' (their statements: YthkihdinpdohbaaTotals.lean).
  GIVEN WITH THE SEED: the statements are not yours to turn. If you find one false, say at which input.
  Laid BY PROGRAM, IN A SANDBOX (cutbox-rows.mjs): the forced cells as the released guide's own fill.sh prints them over the translation f20964ed2a78579b… (all of the seat's roots in one cut). By AI agents, Wed Nov 11 2026. No macro, syntax, notation, axiom, sorry.
-/
import Derived.Test.YthkihdinpdohbaaChecked
import GoSem.Claim
import GoSem.ClaimJoined
import GoSem.ClaimMapViews
import Derived.JoinedTies
import Derived.KernelRfl
namespace Go.Proofs.Ythkihdinpdohbaa
/- THE CELL 'sum', in the pinned program and in every row, IS THE sha256 OF THE DUMP (.gsa) THAT YthkihdinpdohbaaProg.lean LOADS. Nothing in Lean hashes anything: it is a label: what it is worth is what the hold of that sum in a sandbox is worth. -/
noncomputable def Try.pinned : Pinned := { name := "ythkihdinpdohbaa", sum := "f20964ed2a78579be98db3536cdb76a196471136680051b4a7d090e27b975f7b", checked := Try.checked }
namespace Rows
def none {H : Type} : Left H := { results := [], args := [] }

/-- 'catacomblaw21.SpanTells': WHATEVER THE INPUT: true; the input reads as it did. -/
def spanTellsSpec : ChangeSpec := { name := "spanTells", fn := fun _ => fun
  | [d1, d2, d3] => { results := [.lit (.bool true)], args := [d1, d2, d3] }
  | _ => none }
def spanTellsRow : OpenClaim := { program := "ythkihdinpdohbaa", sum := "f20964ed2a78579be98db3536cdb76a196471136680051b4a7d090e27b975f7b", func := "catacomb/catacomblaw21.SpanTells", spec := "spanTells", unfollowed := true, recurses := true, apart := false }
def SpanTellsSaid : Prop := spanTellsRow.holds Try.pinned (OpenSpec.ofChange spanTellsSpec)

/-- ITS FALSE NEIGHBOUR: 'it returns false'. Refute it at one input. -/
def spanTellsWrong : ChangeSpec := { name := "spanTells", fn := fun _ => fun
  | [d1, d2, d3] => { results := [.lit (.bool false)], args := [d1, d2, d3] }
  | _ => none }
def SpanTellsWrongFalsely : Prop := spanTellsRow.holds Try.pinned (OpenSpec.ofChange spanTellsWrong)

/-- 'catacomblaw21.SpanPlaces': WHATEVER THE INPUT: true; the input reads as it did. -/
def spanPlacesSpec : ChangeSpec := { name := "spanPlaces", fn := fun _ => fun
  | [d1, d2, d3] => { results := [.lit (.bool true)], args := [d1, d2, d3] }
  | _ => none }
def spanPlacesRow : OpenClaim := { program := "ythkihdinpdohbaa", sum := "f20964ed2a78579be98db3536cdb76a196471136680051b4a7d090e27b975f7b", func := "catacomb/catacomblaw21.SpanPlaces", spec := "spanPlaces", unfollowed := true, recurses := true, apart := false }
def SpanPlacesSaid : Prop := spanPlacesRow.holds Try.pinned (OpenSpec.ofChange spanPlacesSpec)

/-- ITS FALSE NEIGHBOUR: 'it returns false'. Refute it at one input. -/
def spanPlacesWrong : ChangeSpec := { name := "spanPlaces", fn := fun _ => fun
  | [d1, d2, d3] => { results := [.lit (.bool false)], args := [d1, d2, d3] }
  | _ => none }
def SpanPlacesWrongFalsely : Prop := spanPlacesRow.holds Try.pinned (OpenSpec.ofChange spanPlacesWrong)

/-- 'catacomblaw21.SpanOrder': WHATEVER THE INPUT: true; the input reads as it did. -/
def spanOrderSpec : ChangeSpec := { name := "spanOrder", fn := fun _ => fun
  | [d1, d2] => { results := [.lit (.bool true)], args := [d1, d2] }
  | _ => none }
def spanOrderRow : OpenClaim := { program := "ythkihdinpdohbaa", sum := "f20964ed2a78579be98db3536cdb76a196471136680051b4a7d090e27b975f7b", func := "catacomb/catacomblaw21.SpanOrder", spec := "spanOrder", unfollowed := true, recurses := true, apart := false }
def SpanOrderSaid : Prop := spanOrderRow.holds Try.pinned (OpenSpec.ofChange spanOrderSpec)

/-- ITS FALSE NEIGHBOUR: 'it returns false'. Refute it at one input. -/
def spanOrderWrong : ChangeSpec := { name := "spanOrder", fn := fun _ => fun
  | [d1, d2] => { results := [.lit (.bool false)], args := [d1, d2] }
  | _ => none }
def SpanOrderWrongFalsely : Prop := spanOrderRow.holds Try.pinned (OpenSpec.ofChange spanOrderWrong)

/-- 'catacomblaw21.SpanSets': WHATEVER THE INPUT: true; the input reads as it did. -/
def spanSetsSpec : ChangeSpec := { name := "spanSets", fn := fun _ => fun
  | [d1, d2, d3] => { results := [.lit (.bool true)], args := [d1, d2, d3] }
  | _ => none }
def spanSetsRow : OpenClaim := { program := "ythkihdinpdohbaa", sum := "f20964ed2a78579be98db3536cdb76a196471136680051b4a7d090e27b975f7b", func := "catacomb/catacomblaw21.SpanSets", spec := "spanSets", unfollowed := true, recurses := true, apart := false }
def SpanSetsSaid : Prop := spanSetsRow.holds Try.pinned (OpenSpec.ofChange spanSetsSpec)

/-- ITS FALSE NEIGHBOUR: 'it returns false'. Refute it at one input. -/
def spanSetsWrong : ChangeSpec := { name := "spanSets", fn := fun _ => fun
  | [d1, d2, d3] => { results := [.lit (.bool false)], args := [d1, d2, d3] }
  | _ => none }
def SpanSetsWrongFalsely : Prop := spanSetsRow.holds Try.pinned (OpenSpec.ofChange spanSetsWrong)

/-- 'catacomblaw21.SpanSize': WHATEVER THE INPUT: true; the input reads as it did. -/
def spanSizeSpec : ChangeSpec := { name := "spanSize", fn := fun _ => fun
  | [d1, d2] => { results := [.lit (.bool true)], args := [d1, d2] }
  | _ => none }
def spanSizeRow : OpenClaim := { program := "ythkihdinpdohbaa", sum := "f20964ed2a78579be98db3536cdb76a196471136680051b4a7d090e27b975f7b", func := "catacomb/catacomblaw21.SpanSize", spec := "spanSize", unfollowed := true, recurses := true, apart := false }
def SpanSizeSaid : Prop := spanSizeRow.holds Try.pinned (OpenSpec.ofChange spanSizeSpec)

/-- ITS FALSE NEIGHBOUR: 'it returns false'. Refute it at one input. -/
def spanSizeWrong : ChangeSpec := { name := "spanSize", fn := fun _ => fun
  | [d1, d2] => { results := [.lit (.bool false)], args := [d1, d2] }
  | _ => none }
def SpanSizeWrongFalsely : Prop := spanSizeRow.holds Try.pinned (OpenSpec.ofChange spanSizeWrong)

/-- 'catacomblaw21.SpanOnly': WHATEVER THE INPUT: true; the input reads as it did. -/
def spanOnlySpec : ChangeSpec := { name := "spanOnly", fn := fun _ => fun
  | [d1, d2] => { results := [.lit (.bool true)], args := [d1, d2] }
  | _ => none }
def spanOnlyRow : OpenClaim := { program := "ythkihdinpdohbaa", sum := "f20964ed2a78579be98db3536cdb76a196471136680051b4a7d090e27b975f7b", func := "catacomb/catacomblaw21.SpanOnly", spec := "spanOnly", unfollowed := true, recurses := true, apart := false }
def SpanOnlySaid : Prop := spanOnlyRow.holds Try.pinned (OpenSpec.ofChange spanOnlySpec)

/-- ITS FALSE NEIGHBOUR: 'it returns false'. Refute it at one input. -/
def spanOnlyWrong : ChangeSpec := { name := "spanOnly", fn := fun _ => fun
  | [d1, d2] => { results := [.lit (.bool false)], args := [d1, d2] }
  | _ => none }
def SpanOnlyWrongFalsely : Prop := spanOnlyRow.holds Try.pinned (OpenSpec.ofChange spanOnlyWrong)

/- THE SECOND FORM. 'bulk': how many values and letters a reading holds, each counted each time it is reached (what is shared counts as often as it is met; a slice's spare places count too). A statement '..UptoSaid' is the law's where the arguments, and the package variables that the reading takes, are together of bulk at most 1048576: NARROWER than '..Said'. Prove '..Said' where nothing that the law and all that it calls make is longer than what came in: it says more and counts as full. Else prove '..UptoSaid'. A law counts once. -/
mutual
def uptoBulk {H : Type} : DataW H → Nat
  | .lit (.string bytes) => bytes.length + 1
  | .lit _ => 1
  | .nil => 1
  | .ptr d => uptoBulk d + 1
  | .slice elems spare => uptoBulkAll elems + uptoBulkAll spare + 1
  | .agg parts => uptoBulkAll parts + 1
  | .iface _ d => uptoBulk d + 1
  | .map entries => uptoBulkEntries entries + 1
  | .held _ => 1
def uptoBulkAll {H : Type} : List (DataW H) → Nat
  | [] => 0
  | d :: r => uptoBulk d + uptoBulkAll r
def uptoBulkEntries {H : Type} : List (Lit × DataW H) → Nat
  | [] => 0
  | x :: r => uptoBulkEntry x + uptoBulkEntries r
def uptoBulkEntry {H : Type} : Lit × DataW H → Nat
  | (.string bytes, d) => bytes.length + uptoBulk d + 1
  | (_, d) => uptoBulk d + 1
 end
def uptoSmall : (H : Type) → List (DataW H) → Bool := fun _ ds => decide (uptoBulkAll ds ≤ 1048576)
def OpenSpec.upto (s : _root_.Go.ChangeSpec) : _root_.Go.OpenSpec := { _root_.Go.OpenSpec.ofChange s with cond := some uptoSmall }

/-- 'catacomblaw21.SpanTells', WHERE WHAT IT READS IS OF BULK AT MOST 1048576: true; the input reads as it did. -/
def spanTellsUptoRow : OpenClaim := { program := "ythkihdinpdohbaa", sum := "f20964ed2a78579be98db3536cdb76a196471136680051b4a7d090e27b975f7b", func := "catacomb/catacomblaw21.SpanTells", spec := "spanTells", unfollowed := true, recurses := true, apart := false, narrowed := true }
def SpanTellsUptoSaid : Prop := spanTellsUptoRow.holds Try.pinned (OpenSpec.upto spanTellsSpec)

/-- 'catacomblaw21.SpanPlaces', WHERE WHAT IT READS IS OF BULK AT MOST 1048576: true; the input reads as it did. -/
def spanPlacesUptoRow : OpenClaim := { program := "ythkihdinpdohbaa", sum := "f20964ed2a78579be98db3536cdb76a196471136680051b4a7d090e27b975f7b", func := "catacomb/catacomblaw21.SpanPlaces", spec := "spanPlaces", unfollowed := true, recurses := true, apart := false, narrowed := true }
def SpanPlacesUptoSaid : Prop := spanPlacesUptoRow.holds Try.pinned (OpenSpec.upto spanPlacesSpec)

/-- 'catacomblaw21.SpanOrder', WHERE WHAT IT READS IS OF BULK AT MOST 1048576: true; the input reads as it did. -/
def spanOrderUptoRow : OpenClaim := { program := "ythkihdinpdohbaa", sum := "f20964ed2a78579be98db3536cdb76a196471136680051b4a7d090e27b975f7b", func := "catacomb/catacomblaw21.SpanOrder", spec := "spanOrder", unfollowed := true, recurses := true, apart := false, narrowed := true }
def SpanOrderUptoSaid : Prop := spanOrderUptoRow.holds Try.pinned (OpenSpec.upto spanOrderSpec)

/-- 'catacomblaw21.SpanSets', WHERE WHAT IT READS IS OF BULK AT MOST 1048576: true; the input reads as it did. -/
def spanSetsUptoRow : OpenClaim := { program := "ythkihdinpdohbaa", sum := "f20964ed2a78579be98db3536cdb76a196471136680051b4a7d090e27b975f7b", func := "catacomb/catacomblaw21.SpanSets", spec := "spanSets", unfollowed := true, recurses := true, apart := false, narrowed := true }
def SpanSetsUptoSaid : Prop := spanSetsUptoRow.holds Try.pinned (OpenSpec.upto spanSetsSpec)

/-- 'catacomblaw21.SpanSize', WHERE WHAT IT READS IS OF BULK AT MOST 1048576: true; the input reads as it did. -/
def spanSizeUptoRow : OpenClaim := { program := "ythkihdinpdohbaa", sum := "f20964ed2a78579be98db3536cdb76a196471136680051b4a7d090e27b975f7b", func := "catacomb/catacomblaw21.SpanSize", spec := "spanSize", unfollowed := true, recurses := true, apart := false, narrowed := true }
def SpanSizeUptoSaid : Prop := spanSizeUptoRow.holds Try.pinned (OpenSpec.upto spanSizeSpec)

/-- 'catacomblaw21.SpanOnly', WHERE WHAT IT READS IS OF BULK AT MOST 1048576: true; the input reads as it did. -/
def spanOnlyUptoRow : OpenClaim := { program := "ythkihdinpdohbaa", sum := "f20964ed2a78579be98db3536cdb76a196471136680051b4a7d090e27b975f7b", func := "catacomb/catacomblaw21.SpanOnly", spec := "spanOnly", unfollowed := true, recurses := true, apart := false, narrowed := true }
def SpanOnlyUptoSaid : Prop := spanOnlyUptoRow.holds Try.pinned (OpenSpec.upto spanOnlySpec)

end Rows
end Go.Proofs.Ythkihdinpdohbaa
