/- Chunks, plain: packing. No condition. -/
import Derived.Test.YtopkpflbhhhdfaaGreatXSweepTellsP290b
namespace Go.Proofs
set_option linter.all false
open Go Go.Cat

def zig (n : Int) : Nat := if n < 0 then (-2 * n - 1).toNat else (2 * n).toNat
/-- A number, seven bits a byte. -/
def sevens : Nat → Nat → List UInt8
  | 0, u => [UInt8.ofNat u]
  | k + 1, u => if u < 128 then [UInt8.ofNat u] else (UInt8.ofNat u ||| 128) :: sevens k (u >>> 7)
def packN (u : Nat) : List UInt8 := sevens 10 u
def strN (s : List UInt8) : List UInt8 := packN (zig s.length) ++ s
def numsN (l : List Int) : List UInt8 := (l.map fun n => packN (zig n)).flatten
def intsN (l : List Int) : List UInt8 := packN (zig l.length) ++ numsN l
end Go.Proofs
