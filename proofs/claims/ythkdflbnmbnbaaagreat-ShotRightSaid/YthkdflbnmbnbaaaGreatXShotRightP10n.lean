/- Shots, plain: right trees, by what is changed. No condition. -/
import Derived.Test.YthkdflbnmbnbaaaGreatXShotRightP10m
namespace Go.Proofs
set_option linter.all false
open Go Go.Cat
set_option linter.all false
section
variable {t:api_Tree} {δ δ':Int→Nat}
theorem NodeR.congr {l l':List api_Node} {n:api_Node} (h:NodeR l δ n) (hc:cnt l' n.Ino=cnt l n.Ino) (h1:cnt l' 1=cnt l 1) (hd:δ' n.Ino=δ n.Ino) (hd1:δ' 1=δ 1) (hp:∀p,gN l n.Up=some p→n.Ino≠1→n.Kind=2→∃p',gN l' n.Up=some p'∧p'.Ents=p.Ents):NodeR l' δ' n:=by
 rcases h with h | ⟨hk,hdt,h | h⟩
 ·exact .inl ⟨h.1,h.2.1,h.2.2.1,h.2.2.2.1,by rw [hc,hd]; exact h.2.2.2.2⟩
 ·exact .inr ⟨hk,hdt,.inl ⟨h.1,h.2.1,h.2.2.1,by rw [h1]; exact h.2.2.2.1,by rw [hd1]; exact h.2.2.2.2⟩⟩
 ·refine .inr ⟨hk,hdt,.inr ⟨h.1,by rw [hc,hd]; exact h.2.1,h.2.2.1,fun h0=>?_⟩⟩
  rw [hd] at h0
  obtain ⟨p,h2,h3⟩:=h.2.2.2 h0
  obtain ⟨p',h4,h5⟩:=hp p h2 h.1 hk
  exact ⟨p',h4,by rw [h5]; exact h3⟩
theorem W.fileCh (h:W t δ) {m:api_Node} (hm:m∈t.Nodes) (hk:m.Kind≠2) {L:Int} {D:List UInt8} (hD:D.length≤4096) (hd:∀i,i≠m.Ino→δ' i=δ i) (hL:L=(cnt t.Nodes m.Ino:Int)+δ' m.Ino):W ⟨putL ⟨m.Ino,m.Kind,L,D,m.Ents,m.Up⟩ t.Nodes,t.Next,t.Cookie⟩ δ':=by
 have hg:gN t.Nodes m.Ino=some m:=gN_mem h.s hm
 have hgd:gD t.Nodes m.Ino=m:=(h.get hg).2.2
 have hf:=h.file hm hk
 have hm1:m.Ino≠1:=fun e=>hk (h.one hm e)
 have hcn:∀i,cnt (putL ⟨m.Ino,m.Kind,L,D,m.Ents,m.Up⟩ t.Nodes) i=cnt t.Nodes i:=fun i=>by
  have h1:=cnt_put (n:=⟨m.Ino,m.Kind,L,D,m.Ents,m.Up⟩) i h.s
  dsimp only at h1
  rw [hgd] at h1; omega
 have hgn:∀i,gN (putL ⟨m.Ino,m.Kind,L,D,m.Ents,m.Up⟩ t.Nodes) i=if i=m.Ino then some ⟨m.Ino,m.Kind,L,D,m.Ents,m.Up⟩ else gN t.Nodes i:=fun i=>gN_put _ i _
 have hgn':∀i p,gN t.Nodes i=some p→∃p',gN (putL ⟨m.Ino,m.Kind,L,D,m.Ents,m.Up⟩ t.Nodes) i=some p'∧p'.Ents=p.Ents∧p'.Kind=p.Kind∧p'.Up=p.Up:=fun i p hp=>by
  by_cases e:i=m.Ino
  ·rw [e,hg] at hp; cases hp
   exact ⟨⟨m.Ino,m.Kind,L,D,m.Ents,m.Up⟩,by rw [hgn,if_pos e],rfl,rfl,rfl⟩
  ·exact ⟨p,by rw [hgn,if_neg e,hp],rfl,rfl,rfl⟩
 have hsome:∀i,(gN t.Nodes i).isSome=true→(gN (putL ⟨m.Ino,m.Kind,L,D,m.Ents,m.Up⟩ t.Nodes) i).isSome=true:=fun i hi=>by
  rw [hgn]; split; rfl; exact hi
 have hmem:∀{y},y∈putL ⟨m.Ino,m.Kind,L,D,m.Ents,m.Up⟩ t.Nodes→y=⟨m.Ino,m.Kind,L,D,m.Ents,m.Up⟩∨(y∈t.Nodes∧y.Ino≠m.Ino):=putL_mem'
 have hdeep:∀{i d},Deep t.Nodes i d→Deep (putL ⟨m.Ino,m.Kind,L,D,m.Ents,m.Up⟩ t.Nodes) i d:=fun hd=>hd.congr fun j n hj _=>by
  obtain ⟨p',h1,-,h2,h3⟩:=hgn' j n hj
  exact ⟨p',h1,h2,h3⟩
 refine ⟨putL_srt h.s,fun n hn=>?_,?_,?_,h.ck,fun n hn=>?_,fun n hn e he=>?_,fun n hn=>?_,fun n hn hk'=>?_⟩
 ·rcases hmem hn with rfl | ⟨hn,-⟩
  ·exact h.lo m hm
  ·exact h.lo n hn
 ·obtain ⟨r,hr,hkr⟩:=h.rt
  exact ⟨r,by dsimp only; rw [hgn,if_neg (Ne.symm hm1),hr],hkr⟩
 ·dsimp only; rw [putL_len2 h.s (by dsimp only; rw [hg]; rfl)]; exact h.len
 ·rcases hmem hn with rfl | ⟨hn,-⟩
  ·exact h.en m hm
  ·exact h.en n hn
 ·rcases hmem hn with rfl | ⟨hn,-⟩
  ·exact hsome _ (h.cl m hm e he)
  ·exact hsome _ (h.cl n hn e he)
 ·rcases hmem hn with rfl | ⟨hn,hne⟩
  ·exact .inl ⟨hf.1,hf.2.1,hf.2.2.1,hD,by dsimp only; rw [hcn]; exact hL⟩
  ·refine (h.nd n hn).congr (hcn _) (hcn _) (hd _ hne) (hd _ (Ne.symm hm1)) fun p hp _ _=>?_
   obtain ⟨p',h1,h2,-⟩:=hgn' _ p hp
   exact ⟨p',h1,h2⟩
 ·rcases hmem hn with rfl | ⟨hn,-⟩
  ·exact absurd hk' hk
  ·obtain ⟨d,h1,h2,h3⟩:=h.dp n hn hk'
   exact ⟨d,hdeep h1,h2,h3⟩
theorem W.gone (h:W t δ) {m:api_Node} (hm:m∈t.Nodes) (hm1:m.Ino≠1) (hE:m.Ents=[]) (hc:cnt t.Nodes m.Ino=0) (hu:∀q,q∈t.Nodes→q.Kind=2→q.Ino≠1→q.Ino≠m.Ino→q.Up≠m.Ino) (hd:∀i,i≠m.Ino→δ' i=δ i):W ⟨t.Nodes.filter (fun x=>x.Ino != m.Ino),t.Next,t.Cookie⟩ δ':=by
 have hg:gN t.Nodes m.Ino=some m:=gN_mem h.s hm
 have hgd:gD t.Nodes m.Ino=m:=(h.get hg).2.2
 have hcn:∀i,cnt (t.Nodes.filter (fun x=>x.Ino != m.Ino)) i=cnt t.Nodes i:=fun i=>by
  have h1:=cnt_drop h.s m.Ino i
  rw [hgd,hE] at h1; simp [cE] at h1; exact h1
 have hgn:∀i,gN (t.Nodes.filter (fun x=>x.Ino != m.Ino)) i=if i=m.Ino then none else gN t.Nodes i:=fun i=>gN_drop _ _ _
 have hmem:∀{y},y∈t.Nodes.filter (fun x=>x.Ino != m.Ino)→y∈t.Nodes∧y.Ino≠m.Ino:=fun hy=>by
  have:=List.mem_filter.1 hy
  exact ⟨this.1,by simpa using this.2⟩
 have hdeep:∀{i d},Deep t.Nodes i d→i≠m.Ino→Deep (t.Nodes.filter (fun x=>x.Ino != m.Ino)) i d:=by
  intro i d hd
  induction hd with
  | root=>intro _; exact .root
  | @step i n d h1 h2 h3 h4 ih =>
   intro hne
   have:=gN_some h2
   exact .step h1 (by rw [hgn,if_neg hne,h2]) h3 (ih (hu n this.1 h3 (by rw [this.2]; exact h1) (by rw [this.2]; exact hne)))
 refine ⟨filter_srt h.s _,fun n hn=>h.lo n (hmem hn).1,?_,?_,h.ck,fun n hn=>h.en n (hmem hn).1,fun n hn e he=>?_,fun n hn=>?_,fun n hn hk'=>?_⟩
 ·obtain ⟨r,hr,hkr⟩:=h.rt
  exact ⟨r,by dsimp only; rw [hgn,if_neg (Ne.symm hm1),hr],hkr⟩
 ·exact Nat.le_trans (List.length_filter_le _ _) h.len
 ·have hn:=(hmem hn).1
  dsimp only
  rw [hgn,if_neg ?_]
  ·exact h.cl n hn e he
  ·intro h1
   have:0 < cnt t.Nodes m.Ino:=cnt_pos.2 ⟨n,hn,e,he,h1⟩
   omega
 ·obtain ⟨hn,hne⟩:=hmem hn
  refine (h.nd n hn).congr (hcn _) (hcn _) (hd _ hne) (hd _ (Ne.symm hm1)) fun p hp h1 hk=>⟨p,?_,rfl⟩
  rw [hgn,if_neg (hu n hn hk h1 hne),hp]
 ·obtain ⟨hn,hne⟩:=hmem hn
  obtain ⟨d,h1,h2,h3⟩:=h.dp n hn hk'
  exact ⟨d,hdeep h1 hne,h2,h3⟩
theorem W.new (h:W t δ) (hl:t.Nodes.length < 200) {k u:Int} (hk:k=1∧u=0∨k=2∧∃d,Deep t.Nodes u d∧d < 12) (h0:δ t.Next=0) (hd:∀i,δ' i=δ i+if i=t.Next then 1 else 0):W ⟨putL ⟨t.Next,k,1,[],[],u⟩ t.Nodes,t.Next+1,t.Cookie⟩ δ':=by
 have hx:=h.nx
 have hno:gN t.Nodes t.Next=none:=gN_none.2 fun n hn e=>by have:=h.lo n hn; omega
 have hgd:gD t.Nodes t.Next=nod0:=by unfold gD; rw [hno]; rfl
 have hcn:∀i,cnt (putL ⟨t.Next,k,1,[],[],u⟩ t.Nodes) i=cnt t.Nodes i:=fun i=>by
  have h1:=cnt_put (n:=⟨t.Next,k,1,[],[],u⟩) i h.s
  dsimp only at h1
  rw [hgd] at h1; simp [cE,nod0] at h1; exact h1
 have hcx:cnt t.Nodes t.Next=0:=by
  rcases Nat.eq_zero_or_pos (cnt t.Nodes t.Next) with h1 | h1
  ·exact h1
  ·obtain ⟨n,hn,e,he,hei⟩:=cnt_pos.1 h1
   have:=h.cl n hn e he
   rw [hei,hno] at this; cases this
 have hgn:∀i,gN (putL ⟨t.Next,k,1,[],[],u⟩ t.Nodes) i=if i=t.Next then some ⟨t.Next,k,1,[],[],u⟩ else gN t.Nodes i:=fun i=>gN_put _ i _
 have hgs:∀i p,gN t.Nodes i=some p→gN (putL ⟨t.Next,k,1,[],[],u⟩ t.Nodes) i=some p:=fun i p hp=>by
  rw [hgn,if_neg,hp]
  intro e; rw [e,hno] at hp; cases hp
 have hmem:∀{y},y∈putL ⟨t.Next,k,1,[],[],u⟩ t.Nodes→y=⟨t.Next,k,1,[],[],u⟩∨(y∈t.Nodes∧y.Ino≠t.Next):=putL_mem'
 have hdeep:∀{i d},Deep t.Nodes i d→Deep (putL ⟨t.Next,k,1,[],[],u⟩ t.Nodes) i d:=fun hd=>hd.congr fun j n hj _=>⟨n,hgs j n hj,rfl,rfl⟩
 refine ⟨putL_srt h.s,fun n hn=>?_,?_,?_,h.ck,fun n hn=>?_,fun n hn e he=>?_,fun n hn=>?_,fun n hn hk'=>?_⟩
 ·rcases hmem hn with rfl | ⟨hn,-⟩
  ·dsimp only; omega
  ·have:=h.lo n hn; dsimp only; omega
 ·obtain ⟨r,hr,hkr⟩:=h.rt
  exact ⟨r,hgs _ _ hr,hkr⟩
 ·have:=putL_len ⟨t.Next,k,1,[],[],u⟩ t.Nodes; dsimp only; omega
 ·rcases hmem hn with rfl | ⟨hn,-⟩
  ·exact ⟨by simp,List.Pairwise.nil,fun e he=>(by cases he),List.Pairwise.nil⟩
  ·exact h.en n hn
 ·rcases hmem hn with rfl | ⟨hn,-⟩
  ·cases he
  ·obtain ⟨p,hp⟩:=Option.isSome_iff_exists.1 (h.cl n hn e he)
   dsimp only; rw [hgs _ _ hp]; rfl
 ·rcases hmem hn with rfl | ⟨hn,hne⟩
  ·have e1:δ' t.Next=1:=by rw [hd,h0,if_pos rfl]
   rcases hk with ⟨h1,h2⟩ | ⟨h1,h2⟩
   ·exact .inl ⟨h1,rfl,h2,by simp,by dsimp only; rw [hcn,hcx,e1]; rfl⟩
   ·exact .inr ⟨h1,rfl,.inr ⟨by dsimp only; omega,by dsimp only; rw [hcn,hcx,e1],rfl,fun h=>by dsimp only at h; omega⟩⟩
  ·exact (h.nd n hn).congr (hcn _) (hcn _) (by rw [hd,if_neg hne]; rfl) (by rw [hd,if_neg (by omega)]; rfl) fun p hp _ _=>⟨p,hgs _ _ hp,rfl⟩
 ·rcases hmem hn with rfl | ⟨hn,-⟩
  ·rcases hk with ⟨h1,h2⟩ | ⟨h1,d,h2,h3⟩
   ·dsimp only at hk'; omega
   ·exact ⟨d+1,.step (by dsimp only; omega) (by rw [hgn,if_pos rfl]) h1 (hdeep h2),by omega,fun _=>rfl⟩
  ·obtain ⟨d,h1,h2,h3⟩:=h.dp n hn hk'
   exact ⟨d,hdeep h1,h2,h3⟩
inductive Und (l:List api_Node) (x:Int):Int→Prop
 | refl:Und l x x
 | step {i:Int} {n:api_Node}:i≠1→gN l i=some n→n.Kind=2→Und l x n.Up→Und l x i
theorem Deep.notUnd {l l':List api_Node} {x:Int} (hg:∀i,i≠x→gN l' i=gN l i) {i:Int} {d:Nat} (h:Deep l i d):¬Und l x i→Deep l' i d:=by
 induction h with
 | root=>intro _; exact .root
 | @step i n d h1 h2 h3 h4 ih =>
  intro hu
  have hne:i≠x:=fun e=>hu (e▸.refl)
  exact .step h1 (by rw [hg i hne,h2]) h3 (ih fun h=>hu (.step h1 h2 h3 h))
theorem Und.deep {l:List api_Node} {x:Int} {dx:Nat} (hx:Deep l x dx) {i:Int} (h:Und l x i):∀{d:Nat},Deep l i d→dx≤d:=by
 induction h with
 | refl=>intro d hd; rw [hx.uniq hd]; exact Nat.le_refl _
 | step h1 h2 h3 h4 ih =>
  intro d hd
  cases hd with
  | root=>exact absurd rfl h1
  | step g1 g2 g3 g4=>rw [h2] at g2; cases g2; have:=ih g4; omega
theorem Und.moved {l l':List api_Node} {x:Int} {x':api_Node} (hg:∀i,i≠x→gN l' i=gN l i) (hx1:x≠1) (hx':gN l' x=some x') (hk:x'.Kind=2) {dt dx:Nat} (ht:Deep l' x'.Up dt) (hx:Deep l x dx) {i:Int} (h:Und l x i):∀{d:Nat},Deep l i d→Deep l' i (dt+1+(d - dx)):=by
 induction h with
 | refl=>intro d hd; rw [hx.uniq hd,Nat.sub_self]; exact .step hx1 hx' hk ht
 | @step i n h1 h2 h3 h4 ih =>
  intro d hd
  by_cases e:i=x
  ·subst e; rw [hx.uniq hd,Nat.sub_self]; exact .step hx1 hx' hk ht
  ·cases hd with
   | root=>exact absurd rfl h1
   | @step _ n' d' g1 g2 g3 g4 =>
    rw [h2] at g2; cases g2
    have h5:=ih g4
    have h6:=h4.deep hx g4
    have:dt+1+(d'+1 - dx)=dt+1+(d' - dx)+1:=by omega
    rw [this]
    exact .step h1 (by rw [hg i e,h2]) h3 h5
theorem W.moves (h:W t δ) {m:api_Node} (hm:m∈t.Nodes) (hk:m.Kind=2) (hm1:m.Ino≠1) (hw:0 < δ m.Ino) {to:Int} {dt dx:Nat} (ht:Deep t.Nodes to dt) (hx:Deep t.Nodes m.Ino dx) (hnu:¬Und t.Nodes m.Ino to)
  (hdp:∀n,n∈t.Nodes→n.Kind=2→Und t.Nodes m.Ino n.Ino→∀d,Deep t.Nodes n.Ino d→dt+1+(d - dx)≤12∧(dt+1+(d - dx)=12→n.Ents=[])):W ⟨putL ⟨m.Ino,m.Kind,m.Links,m.Data,m.Ents,to⟩ t.Nodes,t.Next,t.Cookie⟩ δ:=by
 have hg:gN t.Nodes m.Ino=some m:=gN_mem h.s hm
 have hgd:gD t.Nodes m.Ino=m:=(h.get hg).2.2
 have hcn:∀i,cnt (putL ⟨m.Ino,m.Kind,m.Links,m.Data,m.Ents,to⟩ t.Nodes) i=cnt t.Nodes i:=fun i=>by
  have h1:=cnt_put (n:=⟨m.Ino,m.Kind,m.Links,m.Data,m.Ents,to⟩) i h.s
  dsimp only at h1
  rw [hgd] at h1; omega
 have hgn:∀i,gN (putL ⟨m.Ino,m.Kind,m.Links,m.Data,m.Ents,to⟩ t.Nodes) i=if i=m.Ino then some ⟨m.Ino,m.Kind,m.Links,m.Data,m.Ents,to⟩ else gN t.Nodes i:=fun i=>gN_put _ i _
 have hgx:gN (putL ⟨m.Ino,m.Kind,m.Links,m.Data,m.Ents,to⟩ t.Nodes) m.Ino=some ⟨m.Ino,m.Kind,m.Links,m.Data,m.Ents,to⟩:=by rw [hgn,if_pos rfl]
 have hgne:∀i,i≠m.Ino→gN (putL ⟨m.Ino,m.Kind,m.Links,m.Data,m.Ents,to⟩ t.Nodes) i=gN t.Nodes i:=fun i hi=>by rw [hgn,if_neg hi]
 have hsome:∀i,(gN t.Nodes i).isSome=true→(gN (putL ⟨m.Ino,m.Kind,m.Links,m.Data,m.Ents,to⟩ t.Nodes) i).isSome=true:=fun i hi=>by
  rw [hgn]; split; rfl; exact hi
 have hmem:∀{y},y∈putL ⟨m.Ino,m.Kind,m.Links,m.Data,m.Ents,to⟩ t.Nodes→y=⟨m.Ino,m.Kind,m.Links,m.Data,m.Ents,to⟩∨(y∈t.Nodes∧y.Ino≠m.Ino):=putL_mem'
 have htt:Deep (putL ⟨m.Ino,m.Kind,m.Links,m.Data,m.Ents,to⟩ t.Nodes) to dt:=ht.notUnd hgne hnu
 have hall:∀n,n∈t.Nodes→n.Kind=2→∃d,Deep (putL ⟨m.Ino,m.Kind,m.Links,m.Data,m.Ents,to⟩ t.Nodes) n.Ino d∧d≤12∧(d=12→n.Ents=[]):=fun n hn hkn=>by
  obtain ⟨d,h1,h2,h3⟩:=h.dp n hn hkn
  by_cases hu:Und t.Nodes m.Ino n.Ino
  ·exact ⟨_,hu.moved hgne hm1 hgx hk htt hx h1,hdp n hn hkn hu d h1⟩
  ·exact ⟨d,h1.notUnd hgne hu,h2,h3⟩
 refine ⟨putL_srt h.s,fun n hn=>?_,?_,?_,h.ck,fun n hn=>?_,fun n hn e he=>?_,fun n hn=>?_,fun n hn hk'=>?_⟩
 ·rcases hmem hn with rfl | ⟨hn,-⟩
  ·exact h.lo m hm
  ·exact h.lo n hn
 ·obtain ⟨r,hr,hkr⟩:=h.rt
  exact ⟨r,by dsimp only; rw [hgne _ (Ne.symm hm1),hr],hkr⟩
 ·dsimp only; rw [putL_len2 h.s (by dsimp only; rw [hg]; rfl)]; exact h.len
 ·rcases hmem hn with rfl | ⟨hn,-⟩
  ·exact h.en m hm
  ·exact h.en n hn
 ·rcases hmem hn with rfl | ⟨hn,-⟩
  ·exact hsome _ (h.cl m hm e he)
  ·exact hsome _ (h.cl n hn e he)
 ·rcases hmem hn with rfl | ⟨hn,hne⟩
  ·rcases h.dir hm hk with hr | hd
   ·exact absurd hr.1 hm1
   ·refine .inr ⟨hk,?_,.inr ⟨hm1,by dsimp only; rw [hcn]; exact hd.2.1,hd.2.2.1,fun h0=>by dsimp only at h0; omega⟩⟩
    rcases h.nd m hm with h5 | h5
    ·exact absurd h5.1 (by omega)
    ·exact h5.2.1
  ·refine (h.nd n hn).congr (hcn _) (hcn _) rfl rfl fun p hp _ _=>?_
   by_cases e:n.Up=m.Ino
   ·rw [e,hg] at hp; cases hp
    exact ⟨⟨m.Ino,m.Kind,m.Links,m.Data,m.Ents,to⟩,by rw [e]; exact hgx,rfl⟩
   ·exact ⟨p,by rw [hgne _ e,hp],rfl⟩
 ·rcases hmem hn with rfl | ⟨hn,-⟩
  ·exact hall m hm hk
  ·exact hall n hn hk'
end
end Go.Proofs
