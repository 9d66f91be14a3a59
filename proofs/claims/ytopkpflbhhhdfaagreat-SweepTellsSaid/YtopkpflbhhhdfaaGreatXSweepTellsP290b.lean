/- Chunks, plain: blocks of sums, what may be put. No condition. -/
import Derived.Test.YtopkpflbhhhdfaaGreatXSweepTellsP290a
namespace Go.Proofs
set_option linter.all false
open Go Go.Cat

def blocksF : Nat → List UInt8 → List Nat
  | 0, _ => []
  | n + 1, d => if d = [] then [] else sumN (d.take 16) :: blocksF n (d.drop 16)
def blocksN (d : List UInt8) : List Nat := blocksF d.length d

def mayP (c : api_Copy) : Prop := (0 ≤ c.Id ∧ c.Id < 200) ∧ (0 ≤ c.Ver ∧ c.Ver ≤ 1099511627776) ∧ c.Data.length ≤ 64 ∧ c.Sums = (blocksN c.Data).map Int.ofNat

theorem p_within (id : Int) : Tot (chunk_within id) (Tells (0 ≤ id ∧ id < 200)) :=
  Tot.bind (Tot.bind (Tot.andI (by simp) fun _ => Tot.dec Iff.rfl) fun _ h => Tot.ret h) fun _ h => Tot.ret h

end Go.Proofs
