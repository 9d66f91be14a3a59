/- Shots, plain: right trees are told right by the document, on; snapshots stay. No condition. -/
import Derived.Test.YthkdflbnmbnbaaaGreatXShotStillP10x
namespace Go.Proofs
set_option linter.all false
open Go Go.Cat
set_option linter.all false
theorem Deep.und1 {l:List api_Node} {i:Int} {d:Nat} (h:Deep l i d):Und l 1 i:=by
 induction h with
 | root=>exact .refl
 | step g1 g2 g3 g4 ih=>exact .step g1 g2 g3 ih
section
variable {t:api_Tree}
theorem r_node (h:RT t) {n:api_Node} (hn:n∈t.Nodes):ref07_node t n=some true:=by
 refine Tot.eq ?_
 unfold ref07_node
 refine Tot.bindeq (r_names h _ _) ?_
 dsimp only
 rcases h.nd n hn with hf | ⟨hk,hd,hr | hr⟩
 ·obtain ⟨f1,f2,f3,f4,f5⟩:=hf
  refine Tot.cond (by simp [f1]) ?_
  rw [f2,f3]
  refine Tot.bindeq (a:=true) ?_ (Tot.ret rfl)
  refine Tot.eq (Tot.bindeq (a:=true) rfl (Tot.bindeq (a:=true) (by rw [if_pos rfl,decide_eq_true (by omega)]) (Tot.bindeq (a:=true) ?_ (Tot.ret rfl))))
  rw [if_pos rfl]
  refine congrArg some ?_
  rw [f5]; simp
 ·refine Tot.ncond (by simp [hk]) (Tot.bindeq (a:=false) ?_ (Tot.ncond (by simp) (Tot.cond (by simp [hr.1]) ?_)))
  ·refine Tot.eq (Tot.bindeq (a:=false) (by rw [hk,hd]; rfl) (Tot.bindeq (a:=false) (Tot.eq (Tot.ncond (by simp) (Tot.bindeq (r_ents h hn) (Tot.ret rfl)))) (Tot.ret rfl)))
  ·rw [hr.1,hr.2.1,hr.2.2.1,hr.2.2.2.1]
   exact Tot.ret rfl
 ·refine Tot.ncond (by simp [hk]) (Tot.bindeq (a:=false) ?_ (Tot.ncond (by simp) (Tot.ncond (by simpa using hr.1) ?_)))
  ·refine Tot.eq (Tot.bindeq (a:=false) (by rw [hk,hd]; rfl) (Tot.bindeq (a:=false) (Tot.eq (Tot.ncond (by simp) (Tot.bindeq (r_ents h hn) (Tot.ret rfl)))) (Tot.ret rfl)))
  ·have h1:cnt t.Nodes n.Ino=1:=hr.2.1
   obtain ⟨p,hp,he⟩:=hr.2.2.2 rfl
   have h2:=cE_pos.2 he
   have h3:=cE_cnt (gN_some hp).1 n.Ino
   have h4:cE (gD t.Nodes n.Up).Ents n.Ino=1:=by rw [gD_of hp]; omega
   rw [h1,h4,hr.2.2.1]
   exact Tot.ret rfl
theorem r_Right (h:RT t) (hx:t.Next≤100000) (hc:t.Cookie≤100000):ref07_Right t=some true:=by
 have hlen:=h.len
 have hck:=h.ck
 obtain ⟨r,hr,hrk⟩:=h.rt
 have hrm:=gN_some hr
 obtain ⟨j,hj⟩:=memR hrm.1
 have h0:t.Nodes[0]?=some r:=by
  rcases Nat.eq_zero_or_pos j with e | e
  ·rw [←e]; exact hj
  ·have hl:=List.getElem?_eq_getElem (show 0 < t.Nodes.length by have:=(getR hj).1; omega)
   have:=srt_lt h.s hl hj e
   have:=h.lo _ (List.mem_of_getElem? hl); omega
 have hl0:=(getR h0).1
 refine Tot.eq ?_
 unfold ref07_Right
 refine Tot.bindeq (a:=false) ?_ (Tot.ncond (by simp) ?_)
 ·refine Tot.eq (Tot.bindeq (a:=false) (by rw [if_neg (by simp; omega),decide_eq_false (by omega)]) (Tot.bindeq (a:=false) (Tot.eq (Tot.ncond (by simp) (Tot.bindeq (idx_some (n:=0) h0) (Tot.ret (by rw [hrm.2]; rfl))))) (Tot.bindeq (a:=false) (Tot.eq (Tot.ncond (by simp) (Tot.bindeq (idx_some (n:=0) h0) (Tot.ret (by rw [hrk]; rfl))))) (Tot.bindeq (a:=false) (by rw [if_neg (by simp),decide_eq_false (by omega)]) (Tot.bindeq (a:=false) (by rw [if_neg (by simp),decide_eq_false (by omega)]) (Tot.bindeq (a:=false) (by rw [if_neg (by simp),decide_eq_false (by omega)]) (Tot.ret rfl)))))))
 unfold ref07N9
 refine Tot.each0 (l:=t.Nodes) (fun _=>True) (fun k n hlt hn _=>?_) (fun _=>?_) trivial
 ·have hnm:=List.mem_of_getElem? hn
  have hlo:=h.lo n hnm
  have h64:=(h.en n hnm).n
  unfold ref07N4
  refine Tot.cond (by simpa using hlt) (Tot.bindeq (idx_some hn) (Tot.bindeq (a:=false) ?_ (Tot.ncond (by simp) (Tot.chk (by unfold InI64; omega) (Tot.inl ⟨rfl,trivial⟩)))))
  refine Tot.eq (Tot.bindeq (a:=false) ?_ (Tot.bindeq (a:=false) (by rw [if_neg (by simp),decide_eq_false (by omega)]) (Tot.bindeq (a:=false) (by rw [if_neg (by simp),decide_eq_false (by omega)]) (Tot.bindeq (a:=false) (Tot.eq (Tot.ncond (by simp) (Tot.bindeq (r_node h hnm) (Tot.ret rfl)))) (Tot.ret rfl)))))
  by_cases hk:k=0
  ·subst hk; rfl
  ·have hp:=List.getElem?_eq_getElem (show k - 1 < t.Nodes.length by omega)
   have hb:=srt_lt h.s hp hn (by omega)
   rw [if_pos (by simp; omega),chk_pos (by unfold InI64; omega),show (k:Int) - 1=((k - 1:Nat):Int) by omega,idx_some hp,Option.bind_some,decide_eq_false (by omega)]
 ·unfold ref07N4
  refine Tot.ncond (by simp) (Tot.out ?_)
  unfold ref07N6 ref07N10
  refine Tot.each0 (l:=t.Nodes) (fun _=>True) (fun k n hlt hn _=>?_) (fun _=>?_) trivial
  ·have hnm:=List.mem_of_getElem? hn
   unfold ref07N5
   refine Tot.cond (by simpa using hlt) (Tot.bindeq (idx_some hn) (Tot.ite (fun _=>?_) fun hk=>?_))
   ·unfold ref07N8
    exact Tot.chk (by unfold InI64; omega) (Tot.inl ⟨rfl,trivial⟩)
   ·have hk:n.Kind=2:=by simpa using hk
    obtain ⟨d,d1,d2,d3⟩:=h.dp n hnm hk
    have e1:depN t.Nodes 201 n.Ino=d:=depN_deep d1 (by omega)
    have e2:belP t.Nodes n.Ino 1=true:=by
     exact belN_und (d:=d) d1.und1 d1 (by have:=deep_len d1; omega)
    refine Tot.bindeq (r_depth t _ (by omega)) ?_
    rw [e1]
    refine Tot.bindeq (a:=false) ?_ (Tot.ncond (by simp) ?_)
    ·refine Tot.eq (Tot.bindeq (r_Below t _ _ (by omega)) ?_)
     rw [e2]
     refine Tot.bindeq (a:=false) (by rw [if_neg (by simp),decide_eq_false (by omega)]) (Tot.bindeq (a:=false) ?_ (Tot.ret rfl))
     refine Tot.eq (Tot.ncond (by simp) ?_)
     by_cases hd:d=12
     ·rw [d3 hd]
      refine Tot.bindeq (a:=false) ?_ (Tot.ret rfl)
      rw [if_pos (by simp [hd])]; rfl
     ·exact Tot.bindeq (a:=false) (by rw [if_neg (by simp; omega)]) (Tot.ret rfl)
    ·unfold ref07N8
     exact Tot.chk (by unfold InI64; omega) (Tot.inl ⟨rfl,trivial⟩)
  ·unfold ref07N5 ref07N7
   exact Tot.ncond (by simp) (Tot.out (Tot.ret rfl))
end
def Keep (s u:api_Shots):Prop:=s.Next≤u.Next∧∀y,y∈u.Taken→s.Next≤y.Id∨(y∈s.Taken∧∀n,Seen u y.At n↔Seen s y.At n)
theorem Keep.refl (s:api_Shots):Keep s s:=⟨Int.le_refl _,fun y hy=>.inr ⟨hy,fun _=>Iff.rfl⟩⟩
theorem Keep.trans {s u v:api_Shots} (h:Keep s u) (h':Keep u v):Keep s v:=⟨Int.le_trans h.1 h'.1,fun y hy=>by
 rcases h'.2 y hy with h1 | ⟨h1,h2⟩
 ·exact .inl (Int.le_trans h.1 h1)
 ·rcases h.2 y h1 with h3 | ⟨h3,h4⟩
  ·exact .inl h3
  ·exact .inr ⟨h3,fun n=>(h2 n).trans (h4 n)⟩⟩
section
variable {k:Nat} {s:api_Shots}
theorem Keep.step (h:SI k s) (hk:k≤200) (hj:SJ s) (a:law10_Act):Keep s (stepS s a).1:=by
 unfold stepS
 split
 ·unfold takeS
  split
  ·exact .refl _
  split
  ·exact .refl _
  split
  ·exact .refl _
  refine ⟨by dsimp only; omega,fun y hy=>?_⟩
  rcases List.mem_append.1 hy with hy | hy
  ·exact .inr ⟨hy,fun _=>Iff.rfl⟩
  ·obtain rfl:=List.mem_singleton.1 hy; exact .inl (Int.le_refl _)
 split
 ·unfold dropS
  split
  ·exact .refl _
  ·exact ⟨Int.le_refl _,fun y hy=>.inr ⟨(List.mem_filter.1 hy).1,fun n=>seen_drop hy n⟩⟩
 ·by_cases hne:s.Now=doneT s.Now a.S
  ·unfold putS; rw [if_pos hne]; exact .refl _
  ·have hp:putS s (doneT s.Now a.S)=⟨doneT s.Now a.S,s.Tick+1,(doneT s.Now a.S).Nodes.map (sinceOf s),s.Pasts++pastsP s (doneT s.Now a.S),s.Taken,s.Next⟩:=by unfold putS; rw [if_neg hne]
   refine ⟨by rw [hp]; exact Int.le_refl _,fun y hy=>.inr ⟨by rw [hp] at hy; exact hy,fun n=>seen_put h (RT.done hj.rt a.S).s hne (by rw [hp] at hy; exact hy) n⟩⟩
end
end Go.Proofs
