/- Shots, plain: what stands below, and what is taken. No condition. -/
import Derived.Test.YthkdflbnmbnbaaaGreatXShotRightP10u
namespace Go.Proofs
set_option linter.all false
open Go Go.Cat
set_option linter.all false
def uS:List api_Node→List Bool→Nat
 | n::l,b::m=>(if b then 0 else n.Ents.length+1)+uS l m
 | _,_=>0
structure UI (l:List api_Node) (i:Int) (s:Int×List Bool×List Int):Prop where
 n:s.2.1.length=l.length
 c:0≤s.1∧s.1≤s.2.2.length
 q:∀x,x∈s.2.2→Rch (gN l) i x
 q0:i∈s.2.2
 m:∀(k:Nat) n,l[k]?=some n→s.2.1[k]?=some true→Rch (gN l) i n.Ino∧∀e,e∈n.Ents→e.Ino∈s.2.2
 d:∀(j:Nat) x,(j:Int) < s.1→s.2.2[j]?=some x→∃(k:Nat) (n:api_Node),l[k]?=some n∧n.Ino=x∧s.2.1[k]?=some true
 b:s.2.2.length+uS l s.2.1≤1+l.length * 65
end Go.Proofs
