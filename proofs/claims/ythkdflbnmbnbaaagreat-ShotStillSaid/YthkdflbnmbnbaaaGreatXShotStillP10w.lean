/- Shots, plain: what is taken. No condition. -/
import Derived.Test.YthkdflbnmbnbaaaGreatXShotStillP10v
namespace Go.Proofs
set_option linter.all false
open Go Go.Cat
set_option linter.all false
section
variable {k:Nat} {s:api_Shots}
theorem p_At_of (h:SI k s) (hk:k≤180) (hj:SJ s) {x:api_Shot} (hx:x∈s.Taken):∃t,RT t∧(∀n,Seen s x.At n↔n∈t.Nodes)∧(∃r,gN t.Nodes x.Ino=some r∧r.Kind=2)∧Tot (shot_At s x.Id) (fun r=>r.1=x.Ino∧r.2.2=0∧∃w,HadP (gN t.Nodes) x.Ino (r.2.1,w)):=by
 obtain ⟨t,h1,h2,h3,h4⟩:=p_hadx h hk hj hx
 refine ⟨t,h1,h2,h3,?_⟩
 have hta:=h.ta
 unfold shot_At shot_At_L1
 refine Tot.each0 (l:=s.Taken) (fun n=>x∉s.Taken.take n) (fun n y hlt hy hi=>?_) (fun hi=>?_) (by simp)
 ·unfold shot_At_B1
  refine Tot.cond (by simpa using hlt) (Tot.bindeq (idx_some hy) (Tot.ite (fun e=>?_) fun e=>Tot.chk (by unfold InI64; omega) (Tot.inl ⟨rfl,?_⟩)))
  ·have:y=x:=by
    have e:y.Id=x.Id:=by simpa using e
    rcases pair_mem h.id (List.mem_of_getElem? hy) hx with h5 | h5 | h5
    ·exact h5
    ·omega
    ·omega
   subst this
   refine Tot.bind h4 fun r hr=>Tot.out (Tot.ret ⟨rfl,rfl,r.2,hr⟩)
  ·rw [take_snoc hy]
   intro hm
   rcases List.mem_append.1 hm with hm | hm
   ·exact hi hm
   ·obtain rfl:=List.mem_singleton.1 hm
    simp at e
 ·rw [List.take_length] at hi
  exact absurd hx hi
theorem p_At_no (h:SI k s) (hk:k≤180) {id:Int} (hno:∀x,x∈s.Taken→x.Id≠id):shot_At s id=some (0,[],100):=by
 have hta:=h.ta
 refine Tot.eq ?_
 unfold shot_At shot_At_L1
 refine Tot.each0 (l:=s.Taken) (fun n=>True) (fun n y hlt hy hi=>?_) (fun hi=>?_) trivial
 ·unfold shot_At_B1
  exact Tot.cond (by simpa using hlt) (Tot.bindeq (idx_some hy) (Tot.ncond (by have:=hno y (List.mem_of_getElem? hy); simpa using this) (Tot.chk (by unfold InI64; omega) (Tot.inl ⟨rfl,trivial⟩))))
 ·unfold shot_At_B1
  exact Tot.ncond (by simp) (Tot.out (Tot.ret rfl))
theorem RT.kind {t:api_Tree} (h:RT t) {n:api_Node} (hn:n∈t.Nodes):n.Kind=1∨n.Kind=2:=(h.nd n hn).kind
end
end Go.Proofs
