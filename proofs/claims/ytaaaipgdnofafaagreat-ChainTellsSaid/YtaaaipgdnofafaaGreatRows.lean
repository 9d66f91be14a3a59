/-
  No cell of these rows narrows 'for every input' (looked for: loops, veiled, ifaces, maps, wideKeys, modest, calm, conditions, laid).
  DERIVED. THE GIVEN ROWS OF THIS SEAT. 6 by the template 'for every input the law returns true; each argument reads behind the call as it read before'; 0 by the template 'total and deterministic' (their statements: YtaaaipgdnofafaaGreatTotals.lean).
  GIVEN WITH THE SEED: the statements are not yours to turn. If you find one false, say at which input.
  Laid BY PROGRAM, IN A SANDBOX (cutbox-rows.mjs): the forced cells as the released guide's own fill.sh prints them over the translation 62f6ba83ba6a9361… (all of the seat's roots in one cut). By AI agents, Wed Nov 11 2026. No macro, syntax, notation, axiom, sorry.
-/
import Derived.Test.YtaaaipgdnofafaaGreatChecked
import GoSem.Claim
import GoSem.ClaimJoined
import GoSem.ClaimMapViews
import Derived.JoinedTies
import Derived.KernelRfl
namespace Go.Proofs.YtaaaipgdnofafaaGreat
/- THE CELL 'sum', in the pinned program and in every row, IS THE sha256 OF THE DUMP (.gsa) THAT YtaaaipgdnofafaaGreatProg.lean LOADS. Nothing in Lean hashes anything: it is a label: what it is worth is what the hold of that sum in a sandbox is worth. -/
noncomputable def Tryz.pinned : Pinned := { name := "ytaaaipgdnofafaagreat", sum := "62f6ba83ba6a9361f6df513e9d6f148242f0a78b709e197ad3fc7957b28b2248", checked := Tryz.checked }
namespace Rows
def none {H : Type} : Left H := { results := [], args := [] }

/-- 'catacomblaw26.ChainMakes': WHATEVER THE INPUT: true; the input reads as it did. -/
def chainMakesSpec : ChangeSpec := { name := "chainMakes", fn := fun _ => fun
  | [d1, d2, d3, d4, d5] => { results := [.lit (.bool true)], args := [d1, d2, d3, d4, d5] }
  | _ => none }
def chainMakesRow : OpenClaim := { program := "ytaaaipgdnofafaagreat", sum := "62f6ba83ba6a9361f6df513e9d6f148242f0a78b709e197ad3fc7957b28b2248", func := "catacomb/catacomblaw26.ChainMakes", spec := "chainMakes", unfollowed := true, recurses := true, apart := false }
def ChainMakesSaid : Prop := chainMakesRow.holds Tryz.pinned (OpenSpec.ofChange chainMakesSpec)

/-- ITS FALSE NEIGHBOUR: 'it returns false'. Refute it at one input. -/
def chainMakesWrong : ChangeSpec := { name := "chainMakes", fn := fun _ => fun
  | [d1, d2, d3, d4, d5] => { results := [.lit (.bool false)], args := [d1, d2, d3, d4, d5] }
  | _ => none }
def ChainMakesWrongFalsely : Prop := chainMakesRow.holds Tryz.pinned (OpenSpec.ofChange chainMakesWrong)

/-- 'catacomblaw26.ChainTells': WHATEVER THE INPUT: true; the input reads as it did. -/
def chainTellsSpec : ChangeSpec := { name := "chainTells", fn := fun _ => fun
  | [d1, d2, d3, d4] => { results := [.lit (.bool true)], args := [d1, d2, d3, d4] }
  | _ => none }
def chainTellsRow : OpenClaim := { program := "ytaaaipgdnofafaagreat", sum := "62f6ba83ba6a9361f6df513e9d6f148242f0a78b709e197ad3fc7957b28b2248", func := "catacomb/catacomblaw26.ChainTells", spec := "chainTells", unfollowed := true, recurses := true, apart := false }
def ChainTellsSaid : Prop := chainTellsRow.holds Tryz.pinned (OpenSpec.ofChange chainTellsSpec)

/-- ITS FALSE NEIGHBOUR: 'it returns false'. Refute it at one input. -/
def chainTellsWrong : ChangeSpec := { name := "chainTells", fn := fun _ => fun
  | [d1, d2, d3, d4] => { results := [.lit (.bool false)], args := [d1, d2, d3, d4] }
  | _ => none }
def ChainTellsWrongFalsely : Prop := chainTellsRow.holds Tryz.pinned (OpenSpec.ofChange chainTellsWrong)

/-- 'catacomblaw26.ChainSafe': WHATEVER THE INPUT: true; the input reads as it did. -/
def chainSafeSpec : ChangeSpec := { name := "chainSafe", fn := fun _ => fun
  | [d1, d2] => { results := [.lit (.bool true)], args := [d1, d2] }
  | _ => none }
def chainSafeRow : OpenClaim := { program := "ytaaaipgdnofafaagreat", sum := "62f6ba83ba6a9361f6df513e9d6f148242f0a78b709e197ad3fc7957b28b2248", func := "catacomb/catacomblaw26.ChainSafe", spec := "chainSafe", unfollowed := true, recurses := true, apart := false }
def ChainSafeSaid : Prop := chainSafeRow.holds Tryz.pinned (OpenSpec.ofChange chainSafeSpec)

/-- ITS FALSE NEIGHBOUR: 'it returns false'. Refute it at one input. -/
def chainSafeWrong : ChangeSpec := { name := "chainSafe", fn := fun _ => fun
  | [d1, d2] => { results := [.lit (.bool false)], args := [d1, d2] }
  | _ => none }
def ChainSafeWrongFalsely : Prop := chainSafeRow.holds Tryz.pinned (OpenSpec.ofChange chainSafeWrong)

/-- 'catacomblaw26.ChainOne': WHATEVER THE INPUT: true; the input reads as it did. -/
def chainOneSpec : ChangeSpec := { name := "chainOne", fn := fun _ => fun
  | [d1, d2, d3] => { results := [.lit (.bool true)], args := [d1, d2, d3] }
  | _ => none }
def chainOneRow : OpenClaim := { program := "ytaaaipgdnofafaagreat", sum := "62f6ba83ba6a9361f6df513e9d6f148242f0a78b709e197ad3fc7957b28b2248", func := "catacomb/catacomblaw26.ChainOne", spec := "chainOne", unfollowed := true, recurses := true, apart := false }
def ChainOneSaid : Prop := chainOneRow.holds Tryz.pinned (OpenSpec.ofChange chainOneSpec)

/-- ITS FALSE NEIGHBOUR: 'it returns false'. Refute it at one input. -/
def chainOneWrong : ChangeSpec := { name := "chainOne", fn := fun _ => fun
  | [d1, d2, d3] => { results := [.lit (.bool false)], args := [d1, d2, d3] }
  | _ => none }
def ChainOneWrongFalsely : Prop := chainOneRow.holds Tryz.pinned (OpenSpec.ofChange chainOneWrong)

/-- 'catacomblaw26.ChainStale': WHATEVER THE INPUT: true; the input reads as it did. -/
def chainStaleSpec : ChangeSpec := { name := "chainStale", fn := fun _ => fun
  | [d1, d2, d3] => { results := [.lit (.bool true)], args := [d1, d2, d3] }
  | _ => none }
def chainStaleRow : OpenClaim := { program := "ytaaaipgdnofafaagreat", sum := "62f6ba83ba6a9361f6df513e9d6f148242f0a78b709e197ad3fc7957b28b2248", func := "catacomb/catacomblaw26.ChainStale", spec := "chainStale", unfollowed := true, recurses := true, apart := false }
def ChainStaleSaid : Prop := chainStaleRow.holds Tryz.pinned (OpenSpec.ofChange chainStaleSpec)

/-- ITS FALSE NEIGHBOUR: 'it returns false'. Refute it at one input. -/
def chainStaleWrong : ChangeSpec := { name := "chainStale", fn := fun _ => fun
  | [d1, d2, d3] => { results := [.lit (.bool false)], args := [d1, d2, d3] }
  | _ => none }
def ChainStaleWrongFalsely : Prop := chainStaleRow.holds Tryz.pinned (OpenSpec.ofChange chainStaleWrong)

/-- 'catacomblaw26.ChainAll': WHATEVER THE INPUT: true; the input reads as it did. -/
def chainAllSpec : ChangeSpec := { name := "chainAll", fn := fun _ => fun
  | [d1, d2, d3, d4] => { results := [.lit (.bool true)], args := [d1, d2, d3, d4] }
  | _ => none }
def chainAllRow : OpenClaim := { program := "ytaaaipgdnofafaagreat", sum := "62f6ba83ba6a9361f6df513e9d6f148242f0a78b709e197ad3fc7957b28b2248", func := "catacomb/catacomblaw26.ChainAll", spec := "chainAll", unfollowed := true, recurses := true, apart := false }
def ChainAllSaid : Prop := chainAllRow.holds Tryz.pinned (OpenSpec.ofChange chainAllSpec)

/-- ITS FALSE NEIGHBOUR: 'it returns false'. Refute it at one input. -/
def chainAllWrong : ChangeSpec := { name := "chainAll", fn := fun _ => fun
  | [d1, d2, d3, d4] => { results := [.lit (.bool false)], args := [d1, d2, d3, d4] }
  | _ => none }
def ChainAllWrongFalsely : Prop := chainAllRow.holds Tryz.pinned (OpenSpec.ofChange chainAllWrong)

/- THE SECOND FORM. 'bulk': how many values and letters a reading holds, each counted each time it is reached (what is shared counts as often as it is met; a slice's spare places count too). A statement '..UptoSaid' is the law's where the arguments, and the package variables that the reading takes, are together of bulk at most 1048576: NARROWER than '..Said'. Prove '..Said' where nothing that the law and all that it calls make is longer than what came in: it says more and counts as full. Else prove '..UptoSaid'. A law counts once. -/
mutual
def uptoBulk {H : Type} : DataW H → Nat
  | .lit (.string bytes) => bytes.length + 1
  | .lit _ => 1
  | .nil => 1
  | .ptr d => uptoBulk d + 1
  | .slice elems spare => uptoBulkAll elems + uptoBulkAll spare + 1
  | .agg parts => uptoBulkAll parts + 1
  | .iface _ d => uptoBulk d + 1
  | .map entries => uptoBulkEntries entries + 1
  | .held _ => 1
def uptoBulkAll {H : Type} : List (DataW H) → Nat
  | [] => 0
  | d :: r => uptoBulk d + uptoBulkAll r
def uptoBulkEntries {H : Type} : List (Lit × DataW H) → Nat
  | [] => 0
  | x :: r => uptoBulkEntry x + uptoBulkEntries r
def uptoBulkEntry {H : Type} : Lit × DataW H → Nat
  | (.string bytes, d) => bytes.length + uptoBulk d + 1
  | (_, d) => uptoBulk d + 1
 end
def uptoSmall : (H : Type) → List (DataW H) → Bool := fun _ ds => decide (uptoBulkAll ds ≤ 1048576)
def OpenSpec.upto (s : _root_.Go.ChangeSpec) : _root_.Go.OpenSpec := { _root_.Go.OpenSpec.ofChange s with cond := some uptoSmall }

/-- 'catacomblaw26.ChainMakes', WHERE WHAT IT READS IS OF BULK AT MOST 1048576: true; the input reads as it did. -/
def chainMakesUptoRow : OpenClaim := { program := "ytaaaipgdnofafaagreat", sum := "62f6ba83ba6a9361f6df513e9d6f148242f0a78b709e197ad3fc7957b28b2248", func := "catacomb/catacomblaw26.ChainMakes", spec := "chainMakes", unfollowed := true, recurses := true, apart := false, narrowed := true }
def ChainMakesUptoSaid : Prop := chainMakesUptoRow.holds Tryz.pinned (OpenSpec.upto chainMakesSpec)

/-- 'catacomblaw26.ChainTells', WHERE WHAT IT READS IS OF BULK AT MOST 1048576: true; the input reads as it did. -/
def chainTellsUptoRow : OpenClaim := { program := "ytaaaipgdnofafaagreat", sum := "62f6ba83ba6a9361f6df513e9d6f148242f0a78b709e197ad3fc7957b28b2248", func := "catacomb/catacomblaw26.ChainTells", spec := "chainTells", unfollowed := true, recurses := true, apart := false, narrowed := true }
def ChainTellsUptoSaid : Prop := chainTellsUptoRow.holds Tryz.pinned (OpenSpec.upto chainTellsSpec)

/-- 'catacomblaw26.ChainSafe', WHERE WHAT IT READS IS OF BULK AT MOST 1048576: true; the input reads as it did. -/
def chainSafeUptoRow : OpenClaim := { program := "ytaaaipgdnofafaagreat", sum := "62f6ba83ba6a9361f6df513e9d6f148242f0a78b709e197ad3fc7957b28b2248", func := "catacomb/catacomblaw26.ChainSafe", spec := "chainSafe", unfollowed := true, recurses := true, apart := false, narrowed := true }
def ChainSafeUptoSaid : Prop := chainSafeUptoRow.holds Tryz.pinned (OpenSpec.upto chainSafeSpec)

/-- 'catacomblaw26.ChainOne', WHERE WHAT IT READS IS OF BULK AT MOST 1048576: true; the input reads as it did. -/
def chainOneUptoRow : OpenClaim := { program := "ytaaaipgdnofafaagreat", sum := "62f6ba83ba6a9361f6df513e9d6f148242f0a78b709e197ad3fc7957b28b2248", func := "catacomb/catacomblaw26.ChainOne", spec := "chainOne", unfollowed := true, recurses := true, apart := false, narrowed := true }
def ChainOneUptoSaid : Prop := chainOneUptoRow.holds Tryz.pinned (OpenSpec.upto chainOneSpec)

/-- 'catacomblaw26.ChainStale', WHERE WHAT IT READS IS OF BULK AT MOST 1048576: true; the input reads as it did. -/
def chainStaleUptoRow : OpenClaim := { program := "ytaaaipgdnofafaagreat", sum := "62f6ba83ba6a9361f6df513e9d6f148242f0a78b709e197ad3fc7957b28b2248", func := "catacomb/catacomblaw26.ChainStale", spec := "chainStale", unfollowed := true, recurses := true, apart := false, narrowed := true }
def ChainStaleUptoSaid : Prop := chainStaleUptoRow.holds Tryz.pinned (OpenSpec.upto chainStaleSpec)

/-- 'catacomblaw26.ChainAll', WHERE WHAT IT READS IS OF BULK AT MOST 1048576: true; the input reads as it did. -/
def chainAllUptoRow : OpenClaim := { program := "ytaaaipgdnofafaagreat", sum := "62f6ba83ba6a9361f6df513e9d6f148242f0a78b709e197ad3fc7957b28b2248", func := "catacomb/catacomblaw26.ChainAll", spec := "chainAll", unfollowed := true, recurses := true, apart := false, narrowed := true }
def ChainAllUptoSaid : Prop := chainAllUptoRow.holds Tryz.pinned (OpenSpec.upto chainAllSpec)

end Rows
end Go.Proofs.YtaaaipgdnofafaaGreat
