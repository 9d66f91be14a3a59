/- Shots, plain: right trees are told right by the program. No condition. -/
import Derived.Test.YthkdflbnmbnbaaaGreatXShotRightP10B
namespace Go.Proofs
set_option linter.all false
open Go Go.Cat
set_option linter.all false
section
variable {t:api_Tree}
theorem p_ups (h:RT t) {i:Int} {d:Nat} (hd:Deep t.Nodes i d):∀o:List Int,o.length+1+d≤t.Nodes.length+1→Tot (treeN42 (i,t.Nodes,t.Next,t.Cookie,o++[i])) (fun r=>r.2=⟨t⟩∧r.1.length=o.length+1+d∧r.1[o.length+d]?=some 1):=by
 have hlen:=h.len
 unfold treeN42
 induction hd with
 | root =>
  intro o ho
  refine ⟨_,loop_inr (r:=(o++[1],⟨t⟩)) ?_,rfl,by simp,by simp⟩
  unfold treeN39; rfl
 | @step i n d h1 h2 h3 h4 ih =>
  intro o ho
  have hg:treeN28 ⟨t⟩ i=some ((n,true),⟨t⟩):=by rw [p_gget h.s (by omega),gD_of h2,h2]; rfl
  obtain ⟨r,e,a,b,c⟩:=ih (o++[i]) (by simp; omega)
  refine ⟨r,?_,a,by rw [b]; simp; omega,by rw [←c]; congr 1; simp; omega⟩
  rw [loop_inl (s':=(n.Up,t.Nodes,t.Next,t.Cookie,(o++[i])++[n.Up]))]
  ·exact e
  ·unfold treeN39
   have hi:(i != 1)=true:=by simpa using h1
   dsimp only
   rw [hi,if_pos rfl,decide_eq_true (by simp; omega),Option.bind_some,Option.bind_some,if_pos rfl]
   show (treeN28 ⟨t⟩ i).bind _=_
   rw [hg,Option.bind_some]
   dsimp only
   have hk:(n.Kind != 2)=false:=by simp [h3]
   rw [hk]
   show (chk _ _:Option _)=_
   rw [chk_pos (by simp; omega)]
theorem p_gat_yes (h:RT t) {i:Int} (hi:(gN t.Nodes i).isSome=true):Tot (treeN13 ⟨t⟩ i) (fun r=>r.2=⟨t⟩∧r.1.2=true):=by
 have hlen:=h.len
 refine (p_gat h.s (by omega) i).mono fun r hr=>⟨hr.1,?_⟩
 obtain ⟨n,hn⟩:=Option.isSome_iff_exists.1 hi
 have h2:=hr.2.2
 cases hf:t.Nodes.findIdx? (fun n=>n.Ino == i) with
 | none=>unfold gN at hn; rw [find_no hf] at hn; cases hn
 | some j =>
  rw [hf] at h2
  cases hb:r.1.2 with
  | true=>rfl
  | false=>rw [hb,if_neg (by simp)] at h2; have:(-1:Int)=(j:Int):=h2; omega
theorem p_listed (h:RT t) (hc:t.Cookie≤100000) (hN:NM t) {n:api_Node} (hn:n∈t.Nodes):treeN30 ⟨t⟩ n=some (true,⟨t⟩):=by
 have hE:=h.en n hn
 have h64:=hE.n
 refine Tot.eq ?_
 unfold treeN30 treeN35
 refine Tot.eachG (l:=n.Ents) (fun s:Int×List api_Node×Int×Int×List (Int×Bool)=>s.1) (fun k s=>s.2.1=t.Nodes∧s.2.2.1=t.Next∧s.2.2.2.1=t.Cookie∧s.2.2.2.2.length≤k∧∀c,(mget c s.2.2.2.2).isSome=true→∃e,e∈n.Ents.take k∧e.Cookie=c) (fun k e s hlt he hcn hi=>?_) (fun s hcn hi=>?_) _ rfl ⟨rfl,rfl,rfl,Nat.zero_le _,fun c hc=>by cases hc⟩
 ·obtain ⟨c,N,X,C,m⟩:=s
  dsimp only at hcn hi
  obtain ⟨rfl,rfl,rfl,hml,hm⟩:=hi
  subst hcn
  have hem:=List.mem_of_getElem? he
  have hr:=hE.r e hem
  have e2:=(List.getElem?_eq_some_iff.1 he).2
  have hno:mget e.Cookie m=none:=by
   cases hx:mget e.Cookie m with
   | none=>rfl
   | some v =>
    obtain ⟨e',he',hce⟩:=hm e.Cookie (by rw [hx]; rfl)
    obtain ⟨j,hj⟩:=memR he'
    rw [List.getElem?_take] at hj
    split at hj
    ·next hjk =>
     obtain ⟨g1,g2⟩:=List.getElem?_eq_some_iff.1 hj
     have:=List.pairwise_iff_getElem.1 hE.k j k g1 hlt hjk
     rw [g2,e2] at this; exact absurd hce this
    ·cases hj
  unfold treeN32
  refine Tot.cond (by simpa using hlt) ?_
  dsimp only
  refine Tot.bindeq (idx_some he) (Tot.bind (show Tot (treeN13 ⟨t⟩ e.Ino) _ from p_gat_yes h (h.cl n hn e hem)) fun x hx=>?_)
  obtain ⟨x1,x2⟩:=hx
  rw [x1]
  refine Tot.bindeq (a:=false) ?_ (Tot.ncond (by simp) (Tot.chk ⟨by unfold InI64; omega,by omega⟩ (Tot.chk (by unfold InI64; omega) (Tot.inl ⟨rfl,rfl,rfl,rfl,Nat.le_trans (mset_len _ _ _) (by omega),fun c hc=>?_⟩))))
  ·rw [x2,name1 (hN n hn e hem) hr.1]
   refine Tot.eq (Tot.bindeq (a:=false) rfl (Tot.bindeq (a:=false) (by rw [if_neg (by simp),decide_eq_false (by omega)]) (Tot.bindeq (a:=false) (by rw [if_neg (by simp)]; exact congrArg some (decide_eq_false (by dsimp only; omega))) (Tot.bindeq (a:=false) (by rw [if_neg (by simp),hno]; rfl) (Tot.bindeq (a:=false) (Tot.eq (Tot.ncond (by simp) (Tot.bindeq (a:=false) ?_ (Tot.ret rfl)))) (Tot.ret rfl))))))
   by_cases hk:k=0
   ·subst hk; rfl
   ·have hp:=List.getElem?_eq_getElem (show k - 1 < n.Ents.length by omega)
    have hb:=List.pairwise_iff_getElem.1 hE.s (k - 1) k (by omega) hlt (by omega)
    rw [if_pos (by simp; omega),chk_pos (by unfold InI64; omega),show (k:Int) - 1=((k - 1:Nat):Int) by omega,idx_some hp,Option.bind_some]
    rw [e2] at hb
    rw [hb]; rfl
  ·dsimp only at hc
   rw [mget_set] at hc
   by_cases e0:c=e.Cookie
   ·exact ⟨e,by rw [take_snoc he]; simp,e0.symm⟩
   ·rw [if_neg e0] at hc
    obtain ⟨e',he',hce⟩:=hm c hc
    exact ⟨e',by rw [take_snoc he]; exact List.mem_append_left _ he',hce⟩
 ·obtain ⟨c,N,X,C,m⟩:=s
  dsimp only at hcn hi
  obtain ⟨rfl,rfl,rfl,-,-⟩:=hi
  subst hcn
  unfold treeN32 treeN34
  exact Tot.ncond (by simp) (Tot.out (Tot.ret (by rw [decide_eq_true (by omega)])))
theorem p_fits (h:RT t) (hc:t.Cookie≤100000) (hN:NM t) {n:api_Node} (hn:n∈t.Nodes) (in_:Int) (hin:n.Kind=2→n.Ino≠1→in_=n.Up):treeN26 ⟨t⟩ n (cnt t.Nodes n.Ino) in_=some (true,⟨t⟩):=by
 have hlen:=h.len
 refine Tot.eq ?_
 unfold treeN26
 rcases h.nd n hn with hf | ⟨hk,hd,hr | hr⟩
 ·obtain ⟨f1,f2,f3,f4,f5⟩:=hf
  refine Tot.cond (by simp [f1]) ?_
  rw [f2,f3]
  refine Tot.bindeq (a:=true) ?_ (Tot.ret rfl)
  refine Tot.eq (Tot.bindeq (a:=true) rfl (Tot.bindeq (a:=true) (by rw [if_pos rfl,decide_eq_true (by omega)]) (Tot.bindeq (a:=true) ?_ (Tot.ret rfl))))
  rw [if_pos rfl]
  refine congrArg some ?_
  rw [f5]; simp
 ·refine Tot.ncond (by simp [hk]) (Tot.bindeq (a:=(false,t.Nodes,t.Next,t.Cookie)) ?_ (Tot.ncond (by simp) (Tot.cond (by simp [hr.1]) ?_)))
  ·refine Tot.eq (Tot.bindeq (a:=false) (by rw [hk,hd]; rfl) (Tot.bindeq (a:=(false,t.Nodes,t.Next,t.Cookie)) (Tot.eq (Tot.ncond (by simp) (Tot.bindeq (p_listed h hc hN hn) (Tot.ret rfl)))) (Tot.ret rfl)))
  ·rw [hr.1,hr.2.1,hr.2.2.1,hr.2.2.2.1]
   exact Tot.ret rfl
 ·refine Tot.ncond (by simp [hk]) (Tot.bindeq (a:=(false,t.Nodes,t.Next,t.Cookie)) ?_ (Tot.ncond (by simp) (Tot.ncond (by simpa using hr.1) ?_)))
  ·refine Tot.eq (Tot.bindeq (a:=false) (by rw [hk,hd]; rfl) (Tot.bindeq (a:=(false,t.Nodes,t.Next,t.Cookie)) (Tot.eq (Tot.ncond (by simp) (Tot.bindeq (p_listed h hc hN hn) (Tot.ret rfl)))) (Tot.ret rfl)))
  ·have h1:cnt t.Nodes n.Ino=1:=hr.2.1
   obtain ⟨d,d1,d2,d3⟩:=h.dp n hn hk
   have hdl:=deep_len d1
   rw [h1,hr.2.2.1,hin hk hr.1]
   refine Tot.bindeq (a:=false) (by simp) (Tot.ncond (by simp) ?_)
   refine Tot.bind (show Tot (treeN37 ⟨t⟩ n.Ino) _ from p_ups h d1 [] (by simp; omega)) fun r hr=>?_
   obtain ⟨r1,r2,r3⟩:=hr
   simp only [List.length_nil,Nat.zero_add] at r2 r3
   refine Tot.chk (by unfold InI64; omega) ?_
   have ei:(r.1.length:Int) - 1=(d:Int):=by rw [r2]; omega
   rw [ei]
   refine Tot.bindeq (a:=true) (Tot.eq (Tot.bindeq (idx_some r3) (Tot.bindeq (a:=true) (Tot.eq (Tot.cond rfl ?_)) (Tot.ret rfl)))) (Tot.ret (by rw [r1]))
   by_cases hd12:d=12
   ·rw [d3 hd12,hd12]
    exact Tot.ret rfl
   ·exact Tot.bindeq (a:=true) (by rw [decide_eq_true (by omega)]; rfl) (Tot.ret rfl)
end
end Go.Proofs
