/- Shots, plain: entries, and names, of right trees. No condition. -/
import Derived.Test.YthkdflbnmbnbaaaGreatXShotRightP10n
namespace Go.Proofs
set_option linter.all false
open Go Go.Cat
set_option linter.all false
theorem cE_ins (e:api_Ent) (i:Int):∀l,cE (insE e l) i=cE l i+if i=e.Ino then 1 else 0
 | []=>by
  unfold insE cE
  by_cases h:i=e.Ino
  ·simp [h]
  ·have:¬e.Ino=i:=fun h'=>h h'.symm
   simp [h,this]
 | x::r=>by
  have ih:=cE_ins e i r
  rw [insE_cons]
  unfold cE at *
  split
  ·rw [List.countP_cons]
   by_cases h:i=e.Ino
   ·simp [h]
   ·have:¬e.Ino=i:=fun h'=>h h'.symm
    simp [h,this]
  ·rw [List.countP_cons,List.countP_cons,ih]; omega
theorem ins_ok {c:Int} {l:List api_Ent} (h:EntsOk c l) {s:List UInt8} {o:Int} (hs:nameR s=true) (hc:1≤c) (hl:l.length < 64) (hno:∀e,e∈l→e.Name≠s):EntsOk (c+1) (insE ⟨s,o,c⟩ l):=by
 refine ⟨by rw [insE_len]; omega,?_,fun e he=>?_,?_⟩
 ·have key:∀l:List api_Ent,l.Pairwise (fun a b=>Op.bytesLess a.Name b.Name=true)→(∀e,e∈l→e.Name≠s)→(insE ⟨s,o,c⟩ l).Pairwise fun a b=>Op.bytesLess a.Name b.Name=true:=by
   intro l
   induction l with
   | nil=>intro _ _; exact List.pairwise_singleton _ _
   | cons x r ih =>
    intro hp hn
    obtain ⟨h1,h2⟩:=List.pairwise_cons.1 hp
    have hxs:=hn x (by simp)
    rw [insE_cons]
    split
    ·next hgt =>
     have hgt:Op.bytesLess s x.Name=true:=by
      rcases bl_tri s x.Name with h | h | h
      ·exact h
      ·exact absurd h.symm hxs
      ·simp [h] at hgt
     refine List.pairwise_cons.2 ⟨fun y hy=>?_,hp⟩
     rcases List.mem_cons.1 hy with rfl | hy
     ·exact hgt
     ·exact bl_trans hgt (h1 y hy)
    ·next hgt =>
     have hlt:Op.bytesLess x.Name s=true:=by
      cases hb:Op.bytesLess x.Name s with
      | true=>rfl
      | false=>exact absurd (by simp [hb,hxs]) hgt
     refine List.pairwise_cons.2 ⟨fun y hy=>?_,ih h2 fun e he=>hn e (List.mem_cons_of_mem _ he)⟩
     rcases insE_mem.1 hy with rfl | hy
     ·exact hlt
     ·exact h1 y hy
  exact key l h.s hno
 ·rcases insE_mem.1 he with rfl | he
  ·exact ⟨hs,by dsimp only; omega,by dsimp only; omega⟩
  ·exact ⟨(h.r e he).1,by have:=(h.r e he).2; omega⟩
 ·have key:∀l:List api_Ent,l.Pairwise (fun a b=>a.Cookie≠b.Cookie)→(∀e,e∈l→e.Cookie≠c)→(insE ⟨s,o,c⟩ l).Pairwise fun a b=>a.Cookie≠b.Cookie:=by
   intro l
   induction l with
   | nil=>intro _ _; exact List.pairwise_singleton _ _
   | cons x r ih =>
    intro hp hn
    obtain ⟨h1,h2⟩:=List.pairwise_cons.1 hp
    rw [insE_cons]
    split
    ·exact List.pairwise_cons.2 ⟨fun y hy=>fun e=>hn y hy e.symm,hp⟩
    ·refine List.pairwise_cons.2 ⟨fun y hy=>?_,ih h2 fun e he=>hn e (List.mem_cons_of_mem _ he)⟩
     rcases insE_mem.1 hy with rfl | hy
     ·exact hn x (by simp)
     ·exact h1 y hy
  exact key l h.k fun e he=>by have:=(h.r e he).2; omega
theorem filt_ok {c:Int} {l:List api_Ent} (h:EntsOk c l) (p:api_Ent→Bool):EntsOk c (l.filter p) :=
 ⟨Nat.le_trans (List.length_filter_le _ _) h.n,h.s.filter _,fun e he=>h.r e (List.mem_filter.1 he).1,h.k.filter _⟩
theorem cE_filt {c:Int} {l:List api_Ent} (h:EntsOk c l) {s:List UInt8} {e:api_Ent} (hf:l.find? (fun e=>e.Name == s)=some e) (i:Int):cE (l.filter fun e=>!(e.Name == s)) i+(if i=e.Ino then 1 else 0)=cE l i:=by
 have key:∀l:List api_Ent,l.Pairwise (fun a b=>Op.bytesLess a.Name b.Name=true)→l.find? (fun e=>e.Name == s)=some e→cE (l.filter fun e=>!(e.Name == s)) i+(if i=e.Ino then 1 else 0)=cE l i:=by
  intro l
  induction l with
  | nil=>intro _ h; cases h
  | cons x r ih =>
   intro hp hf
   obtain ⟨h1,h2⟩:=List.pairwise_cons.1 hp
   rw [List.find?_cons] at hf
   rw [List.filter_cons]
   cases hx:(x.Name == s) with
   | true =>
    rw [hx] at hf; cases hf
    have hxs:e.Name=s:=by simpa using hx
    have:r.filter (fun e=>!(e.Name == s))=r:=by
     rw [List.filter_eq_self]
     intro y hy
     have h3:=h1 y hy
     cases hy':(y.Name == s) with
     | false=>rfl
     | true =>
      have hys:y.Name=s:=by simpa using hy'
      rw [hxs,hys,bl_irr] at h3; cases h3
    rw [if_neg (by simp),this]
    unfold cE; rw [List.countP_cons]
    by_cases hi:i=e.Ino
    ·simp [hi]
    ·have:¬e.Ino=i:=fun h'=>hi h'.symm
     simp [hi,this]
   | false =>
    rw [hx] at hf
    have:=ih h2 hf
    rw [if_pos (show (!false)=true from rfl)]
    unfold cE at *
    rw [List.countP_cons,List.countP_cons]; omega
 exact key l h.s hf
theorem dir_ok {l:List api_Node} {i:Int} (h:(dirP l i).2=0):∃m,gN l i=some m∧m.Kind=2∧(dirP l i).1=m∧gD l i=m:=by
 unfold dirP at *
 cases hg:gN l i with
 | none=>rw [hg] at h; cases h
 | some m =>
  have hd:gD l i=m:=by unfold gD; rw [hg]; rfl
  rw [hg,hd] at h
  by_cases hk:(m.Kind != 2)=true
  ·simp [hk] at h
  ·rw [hd]
   refine ⟨m,rfl,by simpa using hk,?_,rfl⟩
   simp [hk]
theorem look_ok {t:api_Tree} {i:Int} {s:List UInt8} (h:(lookP t i s).2=0):∃m e,gN t.Nodes i=some m∧m.Kind=2∧gD t.Nodes i=m∧nameR s=true∧m.Ents.find? (fun e=>e.Name == s)=some e∧(lookP t i s).1=e.Ino:=by
 unfold lookP at *
 by_cases h1:((dirP t.Nodes i).2 != 0)=true
 ·rw [if_pos h1] at h; exact absurd h (by simpa using h1)
 rw [if_neg h1] at h ⊢
 obtain ⟨m,h2,h3,h4,h5⟩:=dir_ok (bne_zero h1)
 by_cases h6:(!nameR s)=true
 ·rw [if_pos h6] at h; cases h
 rw [if_neg h6] at h ⊢
 rw [h4] at h ⊢
 cases hf:m.Ents.find? (fun e=>e.Name == s) with
 | none=>rw [hf] at h; cases h
 | some e=>exact ⟨m,e,h2,h3,h5,by simpa using h6,hf,rfl⟩
theorem nm_none {l:List api_Ent} {s:List UInt8} (h:(nmI l s).isSome=false):∀e,e∈l→e.Name≠s:=by
 unfold nmI at h
 intro e he
 have:l.findIdx? (fun e=>e.Name == s)=none:=by cases hx:l.findIdx? (fun e=>e.Name == s) <;> simp_all
 rw [List.findIdx?_eq_none_iff] at this
 simpa using this e he
theorem depN_deep {l:List api_Node} {i:Int} {d:Nat} (h:Deep l i d):∀{f:Nat},d≤f→depN l f i=d:=by
 induction h with
 | root =>
  intro f _
  cases f with
  | zero=>rfl
  | succ f=>rw [depN_succ,if_pos rfl]
 | @step i n d h1 h2 h3 h4 ih =>
  intro f hf
  cases f with
  | zero=>omega
  | succ f =>
   have:gD l i=n:=by unfold gD; rw [h2]; rfl
   rw [depN_succ,if_neg h1,this,ih (by omega)]
theorem belN_und {l:List api_Node} {x i:Int} (h:Und l x i):∀{d f:Nat},Deep l i d→d < f→belN l x f i=true:=by
 induction h with
 | refl =>
  intro d f _ hf
  cases f with
  | zero=>omega
  | succ f=>unfold belN; rw [if_pos (by simp)]
 | @step i n h1 h2 h3 h4 ih =>
  intro d f hd hf
  cases f with
  | zero=>omega
  | succ f =>
   unfold belN
   by_cases e:(i == x)=true
   ·rw [if_pos e]
   ·rw [if_neg e,if_neg (by simpa using h1)]
    have:gD l i=n:=by unfold gD; rw [h2]; rfl
    rw [this]
    cases hd with
    | root=>exact absurd rfl h1
    | step g1 g2 g3 g4=>rw [h2] at g2; cases g2; exact ih g4 (by omega)
theorem deep_len:∀{d:Nat} {l:List api_Node} {i:Int},Deep l i d→d≤l.length
 | 0,_,_,_=>Nat.zero_le _
 | d+1,l,i,h=>by
  cases h with
  | step h1 h2 h3 h4 =>
   have hi:Deep l i (d+1):=.step h1 h2 h3 h4
   have hnu:¬Und l i _:=fun hu=>by have:=hu.deep hi h4; omega
   have h5:=h4.notUnd (l':=l.filter (fun x=>x.Ino != i)) (fun j hj=>by rw [gN_drop,if_neg hj]) hnu
   have h6:=deep_len h5
   have h7:(l.filter (fun x=>x.Ino != i)).length < l.length:=by
    rw [List.length_filter_lt_length_iff_exists]
    exact ⟨_,(gN_some h2).1,by simp [(gN_some h2).2]⟩
   omega
theorem high_le {l:List api_Node} {i a:Int} {n:api_Node} (hn:n∈l) (hk:n.Kind=2) (hb:belP l n.Ino i=true):a+(depN l 201 n.Ino:Int) - (depN l 201 i:Int)+(if decide ((n.Ents.length:Int) > 0)=true then 1 else 0)≤highP l i a:=by
 unfold highP
 generalize depN l 201=dd
 have key:∀(m:List api_Node) (z:Int),z≤m.foldl (fun m n=>if (n.Kind == 2&&belP l n.Ino i)=true then max m (a+(dd n.Ino:Int) - (dd i:Int)+if decide ((n.Ents.length:Int) > 0)=true then 1 else 0) else m) z∧(n∈m→a+(dd n.Ino:Int) - (dd i:Int)+(if decide ((n.Ents.length:Int) > 0)=true then 1 else 0)≤m.foldl (fun m n=>if (n.Kind == 2&&belP l n.Ino i)=true then max m (a+(dd n.Ino:Int) - (dd i:Int)+if decide ((n.Ents.length:Int) > 0)=true then 1 else 0) else m) z):=by
  intro m
  induction m with
  | nil=>intro z; exact ⟨Int.le_refl _,fun h=>by cases h⟩
  | cons x r ih =>
   intro z
   rw [List.foldl_cons]
   have h1:=ih (if (x.Kind == 2&&belP l x.Ino i)=true then max z (a+(dd x.Ino:Int) - (dd i:Int)+if decide ((x.Ents.length:Int) > 0)=true then 1 else 0) else z)
   refine ⟨Int.le_trans ?_ h1.1,fun hm=>?_⟩
   ·split
    ·exact Int.le_max_left _ _
    ·exact Int.le_refl _
   ·rcases List.mem_cons.1 hm with rfl | hm
    ·refine Int.le_trans ?_ h1.1
     rw [if_pos (show (n.Kind == 2&&belP l n.Ino i)=true by simp [hk,hb])]
     exact Int.le_max_right _ _
    ·exact h1.2 hm
 exact (key l 0).2 hn
def updE (m:api_Node) (E:List api_Ent):api_Node:=⟨m.Ino,m.Kind,m.Links,m.Data,E,m.Up⟩
section
variable {t:api_Tree} {δ δ':Int→Nat}
theorem gN_lef {i:Int} {m:api_Node} (hm:gN t.Nodes i=some m) (s:List UInt8) (j:Int):gN (lefT t i s).Nodes j=if j=i then some (updE m (m.Ents.filter fun e=>!(e.Name == s))) else gN t.Nodes j:=by
 have hd:gD t.Nodes i=m:=by unfold gD; rw [hm]; rfl
 unfold lefT
 dsimp only
 rw [gN_put,hd]
 show (if j=m.Ino then some (updE m _) else _)=_
 rw [(gN_some hm).2]
theorem W.lefT (h:W t δ) {i:Int} {m:api_Node} (hm:gN t.Nodes i=some m) (hk:m.Kind=2) {s:List UInt8} {e:api_Ent} (hf:m.Ents.find? (fun e=>e.Name == s)=some e) (hd:∀k,δ' k=δ k+if k=e.Ino then 1 else 0):W (lefT t i s) δ':=by
 obtain ⟨h1,h2,h3⟩:=h.get hm
 unfold Go.Proofs.lefT
 rw [h3]
 refine h.ents h1 hk (Int.le_refl _) (filt_ok (h.en m h1) _) (fun e he=>h.cl m h1 e (List.mem_filter.1 he).1) (fun k=>?_) (fun q hq _ h4 h5=>?_) (.inr (.inl fun e0=>by rw [e0] at hf; cases hf))
 ·rw [hd,←cE_filt (h.en m h1) hf k]; omega
 ·rw [hd] at h5; omega
theorem W.entT (h:W t δ) {i:Int} {m:api_Node} (hm:gN t.Nodes i=some m) (hk:m.Kind=2) {s:List UInt8} (hs:nameR s=true) (hno:∀e,e∈m.Ents→e.Name≠s) (hl:m.Ents.length < 64) {d:Nat} (hdp:Deep t.Nodes i d) (hd12:d < 12) {o:Int} {q:api_Node} (ho:gN t.Nodes o=some q) (hδ:0 < δ o) (hup:q.Kind=2→q.Up=i) (hd:∀k,δ' k=δ k - if k=o then 1 else 0):W (entT t i s o) δ':=by
 obtain ⟨h1,h2,h3⟩:=h.get hm
 obtain ⟨g1,g2,g3⟩:=h.get ho
 unfold Go.Proofs.entT
 rw [h3]
 refine h.ents h1 hk (by omega) (ins_ok (h.en m h1) hs h.ck hl hno) (fun e he=>?_) (fun k=>?_) (fun p hp hpk h4 h5=>?_) (.inr (.inr ⟨d,by rw [h2]; exact hdp,hd12⟩))
 ·rcases insE_mem.1 he with rfl | he
  ·dsimp only; rw [ho]; rfl
  ·exact h.cl m h1 e he
 ·rw [hd,cE_ins]
  dsimp only
  by_cases e:k=o
  ·rw [if_pos e]; rw [←e] at hδ; omega
  ·rw [if_neg e]; omega
 ·rw [hd] at h5
  have e:p.Ino=o:=by
   by_cases e:p.Ino=o
   ·exact e
   ·rw [if_neg e] at h5; omega
  have:p=q:=srt_uniq h.s hp g1 (by rw [e,g2])
  rw [h2,this]
  exact hup (this▸hpk)
theorem W.unT (h:W t δ) {j:Int} {m:api_Node} (hm:gN t.Nodes j=some m) (hδ:0 < δ j) (hE:m.Ents=[]) (hno:∀q,q∈t.Nodes→q.Kind=2→0 < δ q.Ino→q.Ino≠j→q.Up≠j) (hd:∀k,δ' k=δ k - if k=j then 1 else 0):W (unT t j) δ':=by
 obtain ⟨h1,h2,h3⟩:=h.get hm
 unfold Go.Proofs.unT
 rw [h3]
 have hj1:m.Ino≠1:=fun e=>by have:=h.no1.2; rw [←h2,e] at hδ; omega
 split
 ·next hk =>
  have hk:m.Kind=2:=by simpa using hk
  rw [←h2]
  rcases h.dir h1 hk with hr | hr
  ·exact absurd hr.1 hj1
  ·have h4:=hr.2.1
   rw [h2] at h4
   refine h.gone h1 hj1 hE (by rw [h2]; omega) (fun q hq hqk hq1 hqm=>?_) (fun k hk=>by rw [hd,if_neg (by omega)]; rfl)
   rw [h2] at hqm ⊢
   rcases Nat.eq_zero_or_pos (δ q.Ino) with hz | hz
   ·intro hu
    rcases h.dir hq hqk with hr2 | hr2
    ·exact absurd hr2.1 hq1
    ·obtain ⟨p,hp,e,he,-⟩:=hr2.2.2.2 hz
     rw [hu,hm] at hp; cases hp
     rw [hE] at he; cases he
   ·exact hno q hq hqk hz hqm
 ·next hk =>
  have hk:m.Kind≠2:=by simpa using hk
  have hf:=h.file h1 hk
  refine h.fileCh h1 hk hf.2.2.2.1 (fun k hk=>by rw [hd,if_neg (by omega)]; rfl) ?_
  have:=hf.2.2.2.2
  rw [h2] at this ⊢
  rw [hd,if_pos rfl]; omega
end
end Go.Proofs
