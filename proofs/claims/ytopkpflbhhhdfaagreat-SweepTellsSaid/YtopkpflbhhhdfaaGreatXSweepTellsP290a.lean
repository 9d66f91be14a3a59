/- Chunks, plain: sums. No condition. -/
import Derived.Test.YtopkpflbhhhdfaaGreatXSweepTellsTw
import Derived.Test.YtopkpflbhhhdfaaGreatCatP1
import Derived.Test.YtopkpflbhhhdfaaGreatCatP5
import Derived.IntWalk
namespace Go.Proofs
set_option linter.all false
open Go Go.Cat

def sumTab : List Nat := [0, 274646895, 549293790, 820201905, 1098587580, 1361435347, 1640403810, 1905808397, 2197175160, 2460548119, 2722870694, 2987750089, 3280807620, 3553878443, 3811616794, 4084100981]
def sumNib (y : Nat) : Nat := sumTab.getD (y &&& 15) 0 ^^^ (y >>> 4)
def sumStep (s : Nat) (x : UInt8) : Nat := sumNib (sumNib (s ^^^ x.toNat))
def sumN (b : List UInt8) : Nat := b.foldl sumStep 4294967295 ^^^ 4294967295

end Go.Proofs
