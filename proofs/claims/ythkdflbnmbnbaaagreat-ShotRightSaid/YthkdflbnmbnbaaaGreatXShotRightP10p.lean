/- Shots, plain: a step keeps a right tree right. No condition. -/
import Derived.Test.YthkdflbnmbnbaaaGreatXShotRightP10o
namespace Go.Proofs
set_option linter.all false
open Go Go.Cat
set_option linter.all false
def RT (t:api_Tree):Prop:=W t fun _=>0
def at1 (j:Int):Int→Nat:=fun i=>if i=j then 1 else 0
theorem gD_of {l:List api_Node} {i:Int} {m:api_Node} (h:gN l i=some m):gD l i=m:=by unfold gD; rw [h]; rfl
section
variable {t:api_Tree} {δ:Int→Nat}
theorem W.deep (h:W t δ) {i:Int} {m:api_Node} (hm:gN t.Nodes i=some m) (hk:m.Kind=2):∃d,Deep t.Nodes i d∧d≤12∧(d=12→m.Ents=[])∧depN t.Nodes 201 i=d:=by
 obtain ⟨h1,h2,h3⟩:=h.get hm
 obtain ⟨d,h4,h5,h6⟩:=h.dp m h1 hk
 rw [h2] at h4
 exact ⟨d,h4,h5,h6,depN_deep h4 (by omega)⟩
theorem enter_ok {i:Int} {s:List UInt8} (h:enterE t i s=0):∃m,gN t.Nodes i=some m∧m.Kind=2∧nameR s=true∧(∀e,e∈m.Ents→e.Name≠s)∧m.Ents.length < 64∧depN t.Nodes 201 i < 12:=by
 unfold enterE at h
 by_cases h1:((dirP t.Nodes i).2 != 0)=true
 ·rw [if_pos h1] at h; exact absurd h (by simpa using h1)
 rw [if_neg h1] at h
 obtain ⟨m,h2,h3,h4,h5⟩:=dir_ok (bne_zero h1)
 by_cases h6:(!nameR s)=true
 ·rw [if_pos h6] at h; cases h
 rw [if_neg h6,h4] at h
 by_cases h7:(nmI m.Ents s).isSome=true
 ·rw [if_pos h7] at h; cases h
 rw [if_neg h7] at h
 by_cases h8:fullP t m=true
 ·rw [if_pos h8] at h; cases h
 unfold fullP at h8
 simp only [Bool.or_eq_true,decide_eq_true_eq,not_or] at h8
 have hi:=(gN_some h2).2
 rw [hi] at h8
 refine ⟨m,h2,h3,by simpa using h6,nm_none (by simpa using h7),by omega,?_⟩
 have:=h8.1.2
 generalize depN t.Nodes 201 i=q at *
 omega
theorem RT.add (h:RT t) (i:Int) (s:List UInt8) (k:Int):RT (addP t i s k).1:=by
 unfold addP
 split
 ·exact h
 next hk =>
 split
 ·exact h
 next he =>
 split
 ·exact h
 next hf =>
 obtain ⟨m,h1,h2,h3,h4,h5,h6⟩:=enter_ok (bne_zero he)
 obtain ⟨d,g1,g2,g3,g4⟩:=W.deep h h1 h2
 rw [g4] at h6
 have hl:t.Nodes.length < 200:=by simp at hf; omega
 have hkk:k=1∨k=2:=by
  by_cases e:k=1
  ·exact .inl e
  ·refine .inr (Classical.byContradiction fun e2=>hk (by simp [e,e2]))
 have hno:gN t.Nodes t.Next=none:=gN_none.2 fun n hn e=>by have:=h.lo n hn; omega
 have hin:i≠t.Next:=fun e=>by rw [e,hno] at h1; cases h1
 have w1:W ⟨putL ⟨t.Next,k,1,[],[],if (k == 2)=true then i else 0⟩ t.Nodes,t.Next+1,t.Cookie⟩ (at1 t.Next):=by
  refine W.new h hl ?_ rfl fun j=>?_
  ·rcases hkk with e | e
   ·subst e; exact .inl ⟨rfl,rfl⟩
   ·subst e; exact .inr ⟨rfl,d,g1,h6⟩
  ·unfold at1; omega
 have hg1:∀j,j≠t.Next→gN (putL ⟨t.Next,k,1,[],[],if (k == 2)=true then i else 0⟩ t.Nodes) j=gN t.Nodes j:=fun j hj=>by rw [gN_put]; exact if_neg hj
 refine W.entT (q:=⟨t.Next,k,1,[],[],if (k == 2)=true then i else 0⟩) w1 (by dsimp only; rw [hg1 i hin]; exact h1) h2 h3 h4 h5 (g1.congr fun j n hj _=>⟨n,by dsimp only; rw [hg1 j fun e=>by rw [e,hno] at hj; cases hj]; exact hj,rfl,rfl⟩) h6 (by dsimp only; rw [gN_put]; exact if_pos rfl) (by unfold at1; rw [if_pos rfl]; omega) (fun e=>by dsimp only at e ⊢; rw [if_pos (by simp [e])]) fun j=>?_
 unfold at1; split <;> rfl
theorem RT.ln (h:RT t) (i to:Int) (s:List UInt8):RT (lnP t i to s).1:=by
 unfold lnP
 split
 ·exact h
 next hp =>
 split
 ·exact h
 next hk =>
 split
 ·exact h
 next he =>
 obtain ⟨m,h1,h2,h3,h4,h5,h6⟩:=enter_ok (bne_zero he)
 obtain ⟨d,g1,g2,g3,g4⟩:=W.deep h h1 h2
 rw [g4] at h6
 obtain ⟨n,hn⟩:∃n,gN t.Nodes i=some n:=by
  cases hg:gN t.Nodes i with
  | none=>rw [hg] at hp; simp at hp
  | some n=>exact ⟨n,rfl⟩
 rw [gD_of hn] at hk ⊢
 have hk2:n.Kind≠2:=by simpa using hk
 obtain ⟨k1,k2,k3⟩:=W.get h hn
 have hf:=W.file h k1 hk2
 have hti:to≠i:=fun e=>by rw [e,hn] at h1; cases h1; exact hk2 h2
 have w1:W ⟨putL ⟨n.Ino,n.Kind,n.Links+1,n.Data,n.Ents,n.Up⟩ t.Nodes,t.Next,t.Cookie⟩ (at1 i):=by
  refine W.fileCh h k1 hk2 hf.2.2.2.1 (fun j hj=>by unfold at1; rw [if_neg (by rw [←k2]; exact hj)]) ?_
  have:=hf.2.2.2.2
  dsimp only at this
  unfold at1; rw [k2,if_pos rfl]; rw [k2] at this; omega
 have hg1:∀j,gN (putL ⟨n.Ino,n.Kind,n.Links+1,n.Data,n.Ents,n.Up⟩ t.Nodes) j=if j=i then some ⟨n.Ino,n.Kind,n.Links+1,n.Data,n.Ents,n.Up⟩ else gN t.Nodes j:=fun j=>by
  rw [gN_put]; show (if j=n.Ino then _ else _)=_; rw [k2]
 refine W.entT (q:=⟨n.Ino,n.Kind,n.Links+1,n.Data,n.Ents,n.Up⟩) w1 (by dsimp only; rw [hg1,if_neg hti]; exact h1) h2 h3 h4 h5 (g1.congr fun j p hj hpk=>⟨p,by dsimp only; rw [hg1,if_neg fun e=>by rw [e,hn] at hj; cases hj; exact hk2 hpk]; exact hj,rfl,rfl⟩) h6 (by dsimp only; rw [hg1]; exact if_pos rfl) (by unfold at1; rw [if_pos rfl]; omega) (fun e=>absurd e hk2) fun j=>?_
 unfold at1; split <;> rfl
theorem RT.un (h:RT t) (i:Int) (s:List UInt8):RT (unP t i s).1:=by
 unfold unP
 split
 ·exact h
 next he =>
 split
 ·exact h
 next hE =>
 obtain ⟨m,e,h1,h2,h3,h4,h5,h6⟩:=look_ok (bne_zero he)
 rw [h6] at hE ⊢
 obtain ⟨k1,k2,k3⟩:=W.get h h1
 have hem:=List.mem_of_find?_eq_some h5
 obtain ⟨x,hx⟩:=Option.isSome_iff_exists.1 (h.cl m k1 e hem)
 rw [gD_of hx] at hE
 have hxE:x.Ents=[]:=List.length_eq_zero_iff.1 (by have:¬((x.Ents.length:Int) > 0):=fun h=>hE (decide_eq_true h); omega)
 have hxi:e.Ino≠i:=fun h'=>by rw [h',h1] at hx; cases hx; rw [hxE] at hem; cases hem
 have w1:W (lefT t i s) (at1 e.Ino):=W.lefT h h1 h2 h5 fun k=>by unfold at1; omega
 refine W.unT w1 (j:=e.Ino) (m:=x) (by rw [gN_lef h1,if_neg hxi]; exact hx) (by unfold at1; rw [if_pos rfl]; omega) hxE (fun q _ _ h7 h8=>by unfold at1 at h7; rw [if_neg h8] at h7; omega) fun k=>?_
 unfold at1; split <;> rfl
theorem RT.putD (h:RT t) (i:Int) (x:List UInt8):RT (putP t i x).1:=by
 unfold putP
 split
 ·exact h
 next hp =>
 split
 ·exact h
 next hk =>
 split
 ·exact h
 next hx =>
 obtain ⟨n,hn⟩:∃n,gN t.Nodes i=some n:=by
  cases hg:gN t.Nodes i with
  | none=>rw [hg] at hp; simp at hp
  | some n=>exact ⟨n,rfl⟩
 rw [gD_of hn] at hk ⊢
 have hk2:n.Kind≠2:=by simpa using hk
 obtain ⟨k1,k2,k3⟩:=W.get h hn
 have hf:=W.file h k1 hk2
 exact W.fileCh h k1 hk2 (by simp at hx; omega) (fun _ _=>rfl) hf.2.2.2.2
theorem RT.free (h:RT t) (i:Int):RT (freeP t i).1:=by
 unfold freeP
 split
 ·exact h
 next hp =>
 split
 ·exact h
 next hk =>
 split
 ·exact h
 next hx =>
 obtain ⟨n,hn⟩:∃n,gN t.Nodes i=some n:=by
  cases hg:gN t.Nodes i with
  | none=>rw [hg] at hp; simp at hp
  | some n=>exact ⟨n,rfl⟩
 rw [gD_of hn] at hk hx
 have hk2:n.Kind≠2:=by simpa using hk
 obtain ⟨k1,k2,k3⟩:=W.get h hn
 have hf:=W.file h k1 hk2
 rw [←k2]
 refine W.gone h k1 (fun e=>hk2 (W.one h k1 e)) hf.2.1 (by have:=hf.2.2.2.2; simp at hx; omega) (fun q hq hqk hq1 _ hu=>?_) fun _ _=>rfl
 rcases W.dir h hq hqk with hr | hr
 ·exact hq1 hr.1
 ·obtain ⟨p,hp,e,he,-⟩:=hr.2.2.2 rfl
  rw [hu,k2,hn] at hp; cases hp
  rw [hf.2.1] at he; cases he
def SubT (u t:List api_Node):Prop:=∀j n,gN u j=some n→∃n',gN t j=some n'∧n'.Kind=n.Kind∧n'.Up=n.Up∧(n'.Ents=[]→n.Ents=[])
theorem SubT.deep {u t:List api_Node} (h:SubT u t) {i:Int} {d:Nat} (hd:Deep u i d):Deep t i d:=hd.congr fun j n hj _=>by
 obtain ⟨n',h1,h2,h3,-⟩:=h j n hj
 exact ⟨n',h1,h2,h3⟩
theorem SubT.und {u t:List api_Node} (h:SubT u t) {x i:Int} (hu:Und u x i):Und t x i:=by
 induction hu with
 | refl=>exact .refl
 | step h1 h2 h3 h4 ih =>
  obtain ⟨n',g1,g2,g3,-⟩:=h _ _ h2
  exact .step h1 g1 (by rw [g2,h3]) (by rw [g3]; exact ih)
theorem SubT.trans {u v t:List api_Node} (h:SubT u v) (h':SubT v t):SubT u t:=fun j n hn=>by
 obtain ⟨n',h1,h2,h3,h4⟩:=h j n hn
 obtain ⟨n'',g1,g2,g3,g4⟩:=h' j n' h1
 exact ⟨n'',g1,by rw [g2,h2],by rw [g3,h3],fun e=>h4 (g4 e)⟩
theorem SubT.lef {i:Int} {m:api_Node} (hm:gN t.Nodes i=some m) (s:List UInt8):SubT (lefT t i s).Nodes t.Nodes:=fun j n hn=>by
 rw [gN_lef hm] at hn
 by_cases e:j=i
 ·rw [if_pos e] at hn; cases hn
  exact ⟨m,by rw [e,hm],rfl,rfl,fun e0=>by show List.filter _ _=_; rw [e0]; rfl⟩
 ·rw [if_neg e] at hn
  exact ⟨n,hn,rfl,rfl,id⟩
theorem gN_un {j:Int} {m:api_Node} (hm:gN t.Nodes j=some m) {i:Int} (hi:i≠j):gN (unT t j).Nodes i=gN t.Nodes i:=by
 unfold unT
 rw [gD_of hm]
 split
 ·dsimp only; rw [gN_drop,if_neg hi]
 ·dsimp only; rw [gN_put]; exact if_neg (by rw [(gN_some hm).2]; exact hi)
theorem SubT.un {j:Int} {m:api_Node} (hm:gN t.Nodes j=some m):SubT (unT t j).Nodes t.Nodes:=fun i n hn=>by
 by_cases e:i=j
 ·subst e
  unfold unT at hn
  rw [gD_of hm] at hn
  split at hn
  ·dsimp only at hn; rw [gN_drop,if_pos rfl] at hn; cases hn
  ·dsimp only at hn; rw [gN_put,if_pos (gN_some hm).2.symm] at hn; cases hn
   exact ⟨m,hm,rfl,rfl,id⟩
 ·rw [gN_un hm e] at hn
  exact ⟨n,hn,rfl,rfl,id⟩
end
end Go.Proofs
