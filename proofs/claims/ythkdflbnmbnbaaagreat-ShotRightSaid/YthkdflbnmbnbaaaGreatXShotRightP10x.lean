/- Shots, plain: right trees are told right by the document. No condition. -/
import Derived.Test.YthkdflbnmbnbaaaGreatXShotRightP10w
namespace Go.Proofs
set_option linter.all false
open Go Go.Cat
set_option linter.all false
theorem cE_le (l:List api_Ent) (i:Int):cE l i≤l.length:=List.countP_le_length
theorem cE_app (a b:List api_Ent) (i:Int):cE (a++b) i=cE a i+cE b i:=List.countP_append
theorem cnt_app (a b:List api_Node) (i:Int):cnt (a++b) i=cnt a i+cnt b i:=by simp [cnt]
theorem cnt_le (i:Int):∀(l:List api_Node),(∀n,n∈l→n.Ents.length≤64)→cnt l i≤l.length * 64
 | [],_=>Nat.zero_le _
 | x::l,h=>by
  have ih:=cnt_le i l fun n hn=>h n (List.mem_cons_of_mem _ hn)
  have:=cE_le x.Ents i; have:=h x (by simp)
  rw [cnt_cons,List.length_cons,Nat.succ_mul]; omega
def ownS (l:List api_Node) (i u:Int):Nat:=(l.map fun n=>if n.Ino=u then cE n.Ents i else 0).sum
section
variable {t:api_Tree}
end
end Go.Proofs
