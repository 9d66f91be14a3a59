/- Shots, plain: right trees are told right by the document. No condition. -/
import Derived.Test.YthkdflbnmbnbaaaGreatXShotStillP10w
namespace Go.Proofs
set_option linter.all false
open Go Go.Cat
set_option linter.all false
theorem cE_le (l:List api_Ent) (i:Int):cE l i≤l.length:=List.countP_le_length
theorem cE_app (a b:List api_Ent) (i:Int):cE (a++b) i=cE a i+cE b i:=List.countP_append
theorem cnt_app (a b:List api_Node) (i:Int):cnt (a++b) i=cnt a i+cnt b i:=by simp [cnt]
theorem cnt_le (i:Int):∀(l:List api_Node),(∀n,n∈l→n.Ents.length≤64)→cnt l i≤l.length * 64
 | [],_=>Nat.zero_le _
 | x::l,h=>by
  have ih:=cnt_le i l fun n hn=>h n (List.mem_cons_of_mem _ hn)
  have:=cE_le x.Ents i; have:=h x (by simp)
  rw [cnt_cons,List.length_cons,Nat.succ_mul]; omega
theorem cE_cnt {l:List api_Node} {n:api_Node} (hn:n∈l) (i:Int):cE n.Ents i≤cnt l i:=by
 induction l with
 | nil=>cases hn
 | cons x l ih =>
  rw [cnt_cons]
  rcases List.mem_cons.1 hn with rfl | hn
  ·omega
  ·have:=ih hn; omega
def ownS (l:List api_Node) (i u:Int):Nat:=(l.map fun n=>if n.Ino=u then cE n.Ents i else 0).sum
theorem own_app (a b:List api_Node) (i u:Int):ownS (a++b) i u=ownS a i u+ownS b i u:=by simp [ownS]
theorem own_le (l:List api_Node) (i u:Int):ownS l i u≤cnt l i:=by
 induction l with
 | nil=>exact Nat.le_refl _
 | cons x l ih =>
  have e:ownS (x::l) i u=(if x.Ino=u then cE x.Ents i else 0)+ownS l i u:=by simp [ownS]
  rw [e,cnt_cons]
  split <;> omega
theorem own_eq {l:List api_Node} (h:SrtN l) (i u:Int):ownS l i u=cE (gD l u).Ents i:=by
 induction l with
 | nil=>rfl
 | cons x l ih =>
  obtain ⟨h1,h2⟩:=List.pairwise_cons.1 h
  have e:ownS (x::l) i u=(if x.Ino=u then cE x.Ents i else 0)+ownS l i u:=by simp [ownS]
  rw [e,gD_cons]
  by_cases hx:x.Ino=u
  ·rw [if_pos hx,if_pos hx,ih h2,gD_none fun n hn=>by have:=h1 n hn; omega]
   simp [nod0,cE]
  ·rw [if_neg hx,if_neg hx,ih h2]; omega
section
variable {t:api_Tree}
theorem r_names (h:RT t) (i u:Int):ref07_names t i u=some ((cnt t.Nodes i:Int),(cE (gD t.Nodes u).Ents i:Int)):=by
 have hlen:=h.len
 have h64:∀n,n∈t.Nodes→n.Ents.length≤64:=fun n hn=>(h.en n hn).n
 refine Tot.eq ?_
 unfold ref07_names
 refine Tot.bind (R:=(·=((cnt t.Nodes i:Int),(cE (gD t.Nodes u).Ents i:Int)))) ?_ fun v hv=>Tot.ret (by rw [hv])
 unfold ref07N50
 refine Tot.eachG (l:=t.Nodes) (fun s:Int×Int×Int=>s.2.2) (fun k s=>s.1=(cnt (t.Nodes.take k) i:Int)∧s.2.1=(ownS (t.Nodes.take k) i u:Int)) (fun k n s hlt hn hc hi=>?_) (fun s hc hi=>?_) _ rfl ⟨rfl,rfl⟩
 ·obtain ⟨a,o,c⟩:=s
  dsimp only at hc hi
  obtain ⟨rfl,rfl⟩:=hi
  subst hc
  have hb:=cnt_le i (t.Nodes.take k) fun m hm=>h64 m (List.mem_of_mem_take hm)
  have hb2:=own_le (t.Nodes.take k) i u
  rw [List.length_take] at hb
  have hne:=h64 n (List.mem_of_getElem? hn)
  unfold ref07N48
  refine Tot.cond (by simpa using hlt) ?_
  dsimp only
  refine Tot.bind (R:=(·=((cnt (t.Nodes.take (k+1)) i:Int),(ownS (t.Nodes.take (k+1)) i u:Int)))) ?_ fun v hv=>Tot.chk (by unfold InI64; omega) (Tot.inl ⟨rfl,by rw [hv],by rw [hv]⟩)
  unfold ref07N51
  refine Tot.eachG (l:=n.Ents) (fun s:Int×Int×Int=>s.2.2) (fun j s=>s.1=(cnt (t.Nodes.take k) i:Int)+(cE (n.Ents.take j) i:Int)∧s.2.1=(ownS (t.Nodes.take k) i u:Int)+if n.Ino=u then (cE (n.Ents.take j) i:Int) else 0) (fun j e s hlt2 he hc hi=>?_) (fun s hc hi=>?_) _ rfl ⟨by simp [cE],by simp [cE]⟩
  ·obtain ⟨a,o,c⟩:=s
   dsimp only at hc hi
   obtain ⟨ha,ho⟩:=hi
   subst hc
   have hce:=cE_le (n.Ents.take j) i
   rw [List.length_take] at hce
   have hob:-1≤o∧o≤100000:=by split at ho <;> omega
   unfold ref07N49
   refine Tot.bindeq (idx_some hn) (Tot.cond (by simpa using hlt2) ?_)
   dsimp only
   refine Tot.bind (R:=fun v:Int×Int=>v.1=(cnt (t.Nodes.take k) i:Int)+(cE (n.Ents.take (j+1)) i:Int)∧v.2=(ownS (t.Nodes.take k) i u:Int)+if n.Ino=u then (cE (n.Ents.take (j+1)) i:Int) else 0) (Tot.bindeq (idx_some hn) (Tot.bindeq (idx_some he) ?_)) fun v hv=>Tot.chk (by unfold InI64; omega) (Tot.inl ⟨rfl,hv⟩)
   rw [take_snoc he,cE_app]
   by_cases hei:(e.Ino == i)=true
   ·have h1:cE [e] i=1:=by simp [cE] at hei ⊢; exact hei
    rw [if_pos hei,h1]
    refine Tot.chk (by unfold InI64; omega) (Tot.bindeq (idx_some hn) ?_)
    by_cases hu:n.Ino=u
    ·rw [if_pos hu] at ho ⊢
     exact Tot.cond (by simpa using hu) (Tot.chk (by unfold InI64; omega) (Tot.ret ⟨by dsimp only; omega,by dsimp only; omega⟩))
    ·rw [if_neg hu] at ho ⊢
     exact Tot.ncond (by simpa using hu) (Tot.ret ⟨by dsimp only; omega,by dsimp only; omega⟩)
   ·have h1:cE [e] i=0:=by simp [cE] at hei ⊢; exact hei
    rw [if_neg hei,h1]
    exact Tot.ret ⟨by dsimp only; omega,by dsimp only; rw [ho]; split <;> omega⟩
  ·obtain ⟨a,o,c⟩:=s
   dsimp only at hc hi
   subst hc
   rw [List.take_length] at hi
   unfold ref07N49
   refine Tot.bindeq (idx_some hn) (Tot.ncond (by simp) (Tot.out (Tot.ret ?_)))
   dsimp only
   rw [take_snoc hn,cnt_app,own_app,hi.1,hi.2,cnt_cons]
   have e1:cnt [] i=0:=rfl
   have e2:ownS [n] i u=if n.Ino=u then cE n.Ents i else 0:=by simp [ownS]
   rw [e1,e2]
   refine Prod.ext (by dsimp only; omega) ?_
   dsimp only
   split <;> omega
 ·obtain ⟨a,o,c⟩:=s
  dsimp only at hc hi
  subst hc
  rw [List.take_length] at hi
  unfold ref07N48
  refine Tot.ncond (by simp) (Tot.out (Tot.ret ?_))
  dsimp only
  rw [hi.1,hi.2,own_eq h.s]
theorem r_ents (h:RT t) {n:api_Node} (hn:n∈t.Nodes):ref07_ents t n=some true:=by
 have hlen:=h.len
 have hE:=h.en n hn
 have h64:=hE.n
 refine Tot.eq ?_
 unfold ref07_ents
 refine Tot.ncond (by simp; omega) ?_
 unfold ref07N36
 refine Tot.each0 (l:=n.Ents) (fun _=>True) (fun k e hlt he _=>?_) (fun _=>?_) trivial
 ·have hem:=List.mem_of_getElem? he
  have hr:=hE.r e hem
  unfold ref07N32
  refine Tot.cond (by simpa using hlt) (Tot.bindeq (idx_some he) (Tot.bindeq (a:=false) ?_ (Tot.ncond (by simp) ?_)))
  ·rw [r_name,hr.1,Option.bind_some]
   refine Tot.eq (Tot.bindeq (a:=false) (by rw [if_neg (by simp),decide_eq_false (by omega)]) (Tot.bindeq (a:=false) (by rw [if_neg (by simp),decide_eq_false (by omega)]) (Tot.bindeq (a:=false) ?_ ?_)))
   ·rw [if_neg (by simp),r_place _ _ (by omega),Option.bind_some,oI_neg]
    obtain ⟨q,hq⟩:=Option.isSome_iff_exists.1 (h.cl n hn e hem)
    cases hf:t.Nodes.findIdx? (fun n=>n.Ino == e.Ino) with
    | none=>unfold gN at hq; rw [find_no hf] at hq; cases hq
    | some j=>rfl
   ·refine Tot.bindeq (a:=false) (Tot.eq (Tot.ncond (by simp) ?_)) (Tot.ret rfl)
    refine Tot.bindeq (a:=false) ?_ (Tot.ret rfl)
    by_cases hk:k=0
    ·subst hk; rfl
    ·have hp:=List.getElem?_eq_getElem (show k - 1 < n.Ents.length by omega)
     have hb:=List.pairwise_iff_getElem.1 hE.s (k - 1) k (by omega) hlt (by omega)
     rw [if_pos (by simp; omega),chk_pos (by unfold InI64; omega),show (k:Int) - 1=((k - 1:Nat):Int) by omega,idx_some hp,Option.bind_some]
     have e2:=(List.getElem?_eq_some_iff.1 he).2
     rw [e2] at hb
     rw [hb]; rfl
  ·unfold ref07N37
   refine Tot.loop (fun s:Int=>∃j:Nat,s=j∧j≤k) (fun s=>k+1 - s.toNat) ?_ _ ⟨0,rfl,Nat.zero_le _⟩
   rintro s ⟨j,rfl,hj⟩
   unfold ref07N33
   by_cases hjk:j < k
   ·have hp:=List.getElem?_eq_getElem (show j < n.Ents.length by omega)
    have hb:=List.pairwise_iff_getElem.1 hE.k j k (by omega) hlt hjk
    have e2:=(List.getElem?_eq_some_iff.1 he).2
    rw [e2] at hb
    exact Tot.cond (by simpa using hjk) (Tot.bindeq (idx_some hp) (Tot.ncond (by simpa using hb) (Tot.chk (by unfold InI64; omega) (Tot.inl ⟨⟨j+1,rfl,by omega⟩,by omega⟩))))
   ·refine Tot.ncond (by simp; omega) (Tot.out ?_)
    unfold ref07N35
    exact Tot.chk (by unfold InI64; omega) (Tot.inl ⟨rfl,trivial⟩)
 ·unfold ref07N32
  exact Tot.ncond (by simp) (Tot.out (Tot.ret rfl))
end
end Go.Proofs
