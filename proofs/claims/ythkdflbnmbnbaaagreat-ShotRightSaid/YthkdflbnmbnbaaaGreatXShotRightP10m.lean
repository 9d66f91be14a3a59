/- Shots, plain: what a right tree is, with names that are wanted yet. No condition. -/
import Derived.Test.YthkdflbnmbnbaaaGreatXShotRightP10i
namespace Go.Proofs
set_option linter.all false
open Go Go.Cat
set_option linter.all false
theorem bl_irr:∀x:List UInt8,Op.bytesLess x x=false
 | []=>rfl
 | a::x=>by
  have:=bl_irr x
  simp only [Op.bytesLess,this,Bool.and_false,Bool.or_false]
  simp
theorem bl_trans:∀{x y z:List UInt8},Op.bytesLess x y=true→Op.bytesLess y z=true→Op.bytesLess x z=true
 | [],_,[],_,h=>by cases ‹List UInt8› <;> simp [Op.bytesLess] at h
 | [],_,_::_,_,_=>rfl
 | _::_,[],_,h,_=>by simp [Op.bytesLess] at h
 | _::_,_::_,[],_,h=>by simp [Op.bytesLess] at h
 | a::x,b::y,c::z,h1,h2=>by
  simp only [Op.bytesLess,Bool.or_eq_true,Bool.and_eq_true,decide_eq_true_eq,beq_iff_eq] at *
  rcases h1 with h1 | ⟨rfl,h1⟩ <;> rcases h2 with h2 | ⟨rfl,h2⟩
  ·exact .inl (UInt8.lt_trans h1 h2)
  ·exact .inl h1
  ·exact .inl h2
  ·exact .inr ⟨rfl,bl_trans h1 h2⟩
theorem bl_tri:∀x y:List UInt8,Op.bytesLess x y=true∨x=y∨Op.bytesLess y x=true
 | [],[]=>.inr (.inl rfl)
 | [],_::_=>.inl rfl
 | _::_,[]=>.inr (.inr rfl)
 | a::x,b::y=>by
  simp only [Op.bytesLess,Bool.or_eq_true,Bool.and_eq_true,decide_eq_true_eq,beq_iff_eq]
  rcases Nat.lt_trichotomy a.toNat b.toNat with h | h | h
  ·exact .inl (.inl (UInt8.lt_iff_toNat_lt.2 h))
  ·have:a=b:=UInt8.toNat_inj.1 h
   subst this
   rcases bl_tri x y with h | h | h
   ·exact .inl (.inr ⟨rfl,h⟩)
   ·exact .inr (.inl (by rw [h]))
   ·exact .inr (.inr (.inr ⟨rfl,h⟩))
  ·exact .inr (.inr (.inl (UInt8.lt_iff_toNat_lt.2 h)))
def cE (l:List api_Ent) (i:Int):Nat:=l.countP fun e=>e.Ino == i
def cnt (l:List api_Node) (i:Int):Nat:=(l.map fun n=>cE n.Ents i).sum
theorem cE_pos {l:List api_Ent} {i:Int}:0 < cE l i↔∃e,e∈l∧e.Ino=i:=by
 unfold cE; rw [List.countP_pos_iff]; simp
theorem cnt_pos {l:List api_Node} {i:Int}:0 < cnt l i↔∃n,n∈l∧∃e,e∈n.Ents∧e.Ino=i:=by
 induction l with
 | nil=>simp [cnt]
 | cons x l ih =>
  have:cnt (x::l) i=cE x.Ents i+cnt l i:=by simp [cnt]
  rw [this]
  constructor
  ·intro h
   rcases Nat.eq_zero_or_pos (cE x.Ents i) with h0 | h0
   ·obtain ⟨n,hn,h⟩:=ih.1 (by omega)
    exact ⟨n,List.mem_cons_of_mem _ hn,h⟩
   ·exact ⟨x,by simp,cE_pos.1 h0⟩
  ·rintro ⟨n,hn,h⟩
   rcases List.mem_cons.1 hn with rfl | hn
   ·have:=cE_pos.2 h; omega
   ·have:=ih.2 ⟨n,hn,h⟩; omega
theorem cnt_cons (x:api_Node) (l:List api_Node) (i:Int):cnt (x::l) i=cE x.Ents i+cnt l i:=by simp [cnt]
theorem gD_cons (x:api_Node) (l:List api_Node) (i:Int):gD (x::l) i=if x.Ino=i then x else gD l i:=by
 unfold gD; rw [gN_cons]; split <;> rfl
theorem cnt_drop {l:List api_Node} (h:SrtN l) (j i:Int):cnt (l.filter (fun x=>x.Ino != j)) i+cE (gD l j).Ents i=cnt l i:=by
 induction l with
 | nil=>rfl
 | cons x l ih =>
  obtain ⟨h1,h2⟩:=List.pairwise_cons.1 h
  rw [List.filter_cons,cnt_cons,gD_cons]
  by_cases e:x.Ino=j
  ·have:l.filter (fun x=>x.Ino != j)=l:=by
    rw [List.filter_eq_self]; intro y hy; have:=h1 y hy; simp; omega
   rw [if_neg (by simp [e]),if_pos e,this]; omega
  ·rw [if_pos (by simpa using e),if_neg e,cnt_cons,←ih h2]; omega
theorem cnt_put {n:api_Node} (i:Int):∀{l:List api_Node},SrtN l→cnt (putL n l) i+cE (gD l n.Ino).Ents i=cnt l i+cE n.Ents i
 | [],_=>by
  show cnt [n] i+cE nod0.Ents i=cnt [] i+cE n.Ents i
  rw [cnt_cons]; simp [cnt,nod0,cE]
 | x::r,h=>by
  obtain ⟨h1,h2⟩:=List.pairwise_cons.1 h
  rw [putL_cons]
  by_cases e:x.Ino≥n.Ino
  ·rw [if_pos e,cnt_cons]
   have:=cnt_drop h n.Ino i
   omega
  ·rw [if_neg e,cnt_cons,cnt_cons,gD_cons,if_neg (by omega)]
   have:=cnt_put (n:=n) i h2
   omega
theorem putL_len2 {n:api_Node}:∀{l:List api_Node},SrtN l→(gN l n.Ino).isSome=true→(putL n l).length=l.length
 | [],_,hp=>by simp [gN] at hp
 | x::r,h,hp=>by
  obtain ⟨h1,h2⟩:=List.pairwise_cons.1 h
  rw [putL_cons]
  rw [gN_cons] at hp
  by_cases e:x.Ino≥n.Ino
  ·rw [if_pos e]
   by_cases e2:x.Ino=n.Ino
   ·have:r.filter (fun y=>y.Ino != n.Ino)=r:=by
     rw [List.filter_eq_self]; intro y hy; have:=h1 y hy; simp; omega
    rw [List.filter_cons,if_neg (by simp [e2]),this]; rfl
   ·rw [if_neg e2] at hp
    obtain ⟨m,hm⟩:=Option.isSome_iff_exists.1 hp
    have:=gN_some hm
    have:=h1 m this.1; omega
  ·rw [if_neg e]
   rw [if_neg (by omega)] at hp
   simp only [List.length_cons,putL_len2 h2 hp]
inductive Deep (l:List api_Node):Int→Nat→Prop
 | root:Deep l 1 0
 | step {i:Int} {n:api_Node} {d:Nat}:i≠1→gN l i=some n→n.Kind=2→Deep l n.Up d→Deep l i (d+1)
theorem Deep.uniq {l:List api_Node} {i:Int} {a:Nat} (h:Deep l i a):∀{b:Nat},Deep l i b→a=b:=by
 induction h with
 | root=>intro b hb; cases hb with | root=>rfl | step h1=>exact absurd rfl h1
 | step h1 h2 h3 h4 ih =>
  intro b hb
  cases hb with
  | root=>exact absurd rfl h1
  | step g1 g2 g3 g4=>rw [h2] at g2; cases g2; rw [ih g4]
theorem Deep.congr {l l':List api_Node} (H:∀j n,gN l j=some n→n.Kind=2→∃n',gN l' j=some n'∧n'.Kind=n.Kind∧n'.Up=n.Up) {i:Int} {d:Nat} (h:Deep l i d):Deep l' i d:=by
 induction h with
 | root=>exact .root
 | step h1 h2 h3 h4 ih =>
  obtain ⟨n',e1,e2,e3⟩:=H _ _ h2 h3
  exact .step h1 e1 (by rw [e2,h3]) (by rw [e3]; exact ih)
structure EntsOk (c:Int) (l:List api_Ent):Prop where
 n:l.length≤64
 s:l.Pairwise fun a b=>Op.bytesLess a.Name b.Name=true
 r:∀e,e∈l→nameR e.Name=true∧1≤e.Cookie∧e.Cookie < c
 k:l.Pairwise fun a b=>a.Cookie≠b.Cookie
def FileR (l:List api_Node) (δ:Int→Nat) (n:api_Node):Prop:=n.Kind=1∧n.Ents=[]∧n.Up=0∧n.Data.length≤4096∧n.Links=(cnt l n.Ino:Int)+δ n.Ino
def RootR (l:List api_Node) (δ:Int→Nat) (n:api_Node):Prop:=n.Ino=1∧n.Up=1∧n.Links=0∧cnt l 1=0∧δ 1=0
def DirR (l:List api_Node) (δ:Int→Nat) (n:api_Node):Prop:=n.Ino≠1∧cnt l n.Ino+δ n.Ino=1∧n.Links=1∧(δ n.Ino=0→∃p,gN l n.Up=some p∧∃e,e∈p.Ents∧e.Ino=n.Ino)
def NodeR (l:List api_Node) (δ:Int→Nat) (n:api_Node):Prop:=FileR l δ n∨(n.Kind=2∧n.Data=[]∧(RootR l δ n∨DirR l δ n))
structure W (t:api_Tree) (δ:Int→Nat):Prop where
 s:SrtN t.Nodes
 lo:∀n,n∈t.Nodes→1≤n.Ino∧n.Ino < t.Next
 rt:∃n,gN t.Nodes 1=some n∧n.Kind=2
 len:t.Nodes.length≤200
 ck:1≤t.Cookie
 en:∀n,n∈t.Nodes→EntsOk t.Cookie n.Ents
 cl:∀n,n∈t.Nodes→∀e,e∈n.Ents→(gN t.Nodes e.Ino).isSome=true
 nd:∀n,n∈t.Nodes→NodeR t.Nodes δ n
 dp:∀n,n∈t.Nodes→n.Kind=2→∃d,Deep t.Nodes n.Ino d∧d≤12∧(d=12→n.Ents=[])
theorem NodeR.kind {l:List api_Node} {δ:Int→Nat} {n:api_Node} (h:NodeR l δ n):n.Kind=1∨n.Kind=2:=by
 rcases h with h | h
 ·exact .inl h.1
 ·exact .inr h.1
section
variable {t:api_Tree} {δ:Int→Nat}
theorem W.nx (h:W t δ):1 < t.Next:=by
 obtain ⟨n,hn,-⟩:=h.rt
 have:=gN_some hn
 have h1:=h.lo n this.1
 omega
theorem W.get (h:W t δ) {i:Int} {n:api_Node} (hn:gN t.Nodes i=some n):n∈t.Nodes∧n.Ino=i∧gD t.Nodes i=n:=⟨(gN_some hn).1,(gN_some hn).2,by unfold gD; rw [hn]; rfl⟩
theorem W.dir (h:W t δ) {n:api_Node} (hn:n∈t.Nodes) (hk:n.Kind=2):RootR t.Nodes δ n∨DirR t.Nodes δ n:=by
 rcases h.nd n hn with h | h
 ·exact absurd h.1 (by omega)
 ·exact h.2.2
theorem W.file (h:W t δ) {n:api_Node} (hn:n∈t.Nodes) (hk:n.Kind≠2):FileR t.Nodes δ n:=by
 rcases h.nd n hn with h | h
 ·exact h
 ·exact absurd h.1 hk
theorem W.one (h:W t δ) {n:api_Node} (hn:n∈t.Nodes) (h1:n.Ino=1):n.Kind=2:=by
 obtain ⟨r,hr,hk⟩:=h.rt
 have:=gN_some hr
 rw [srt_uniq h.s hn this.1 (by rw [h1,this.2])]; exact hk
theorem W.no1 (h:W t δ):cnt t.Nodes 1=0∧δ 1=0:=by
 obtain ⟨r,hr,hk⟩:=h.rt
 have:=gN_some hr
 rcases h.dir this.1 hk with h2 | h2
 ·exact h2.2.2.2
 ·exact absurd this.2 h2.1
theorem W.ne1 (h:W t δ) {n:api_Node} (hn:n∈t.Nodes) {e:api_Ent} (he:e∈n.Ents):e.Ino≠1:=by
 intro h1
 have:0 < cnt t.Nodes 1:=cnt_pos.2 ⟨n,hn,e,he,h1⟩
 have:=h.no1.1; omega
theorem W.ents (h:W t δ) {m:api_Node} (hm:m∈t.Nodes) (hk:m.Kind=2) {E:List api_Ent} {c:Int} {δ':Int→Nat} (hc:t.Cookie≤c) (hE:EntsOk c E)
  (hcl:∀e,e∈E→(gN t.Nodes e.Ino).isSome=true) (hcnt:∀i,cE E i+δ' i=cE m.Ents i+δ i)
  (hup:∀q,q∈t.Nodes→q.Kind=2→0 < δ q.Ino→δ' q.Ino=0→q.Up=m.Ino)
  (hdp:E=[]∨m.Ents≠[]∨∃d,Deep t.Nodes m.Ino d∧d < 12):W ⟨putL ⟨m.Ino,m.Kind,m.Links,m.Data,E,m.Up⟩ t.Nodes,t.Next,c⟩ δ':=by
 have hg:gN t.Nodes m.Ino=some m:=gN_mem h.s hm
 have hgd:gD t.Nodes m.Ino=m:=(h.get hg).2.2
 have hck:=h.ck
 have hcn:∀i,cnt (putL ⟨m.Ino,m.Kind,m.Links,m.Data,E,m.Up⟩ t.Nodes) i+δ' i=cnt t.Nodes i+δ i:=fun i=>by
  have h1:=cnt_put (n:=⟨m.Ino,m.Kind,m.Links,m.Data,E,m.Up⟩) i h.s
  have h2:=hcnt i
  dsimp only at h1
  rw [hgd] at h1; omega
 have hgn:∀i,gN (putL ⟨m.Ino,m.Kind,m.Links,m.Data,E,m.Up⟩ t.Nodes) i=if i=m.Ino then some ⟨m.Ino,m.Kind,m.Links,m.Data,E,m.Up⟩ else gN t.Nodes i:=fun i=>gN_put _ i _
 have hsome:∀i,(gN t.Nodes i).isSome=true→(gN (putL ⟨m.Ino,m.Kind,m.Links,m.Data,E,m.Up⟩ t.Nodes) i).isSome=true:=fun i hi=>by
  rw [hgn]; split; rfl; exact hi
 have hmem:∀{y},y∈putL ⟨m.Ino,m.Kind,m.Links,m.Data,E,m.Up⟩ t.Nodes→y=⟨m.Ino,m.Kind,m.Links,m.Data,E,m.Up⟩∨(y∈t.Nodes∧y.Ino≠m.Ino):=putL_mem'
 have hno:=h.no1
 have hdeep:∀{i d},Deep t.Nodes i d→Deep (putL ⟨m.Ino,m.Kind,m.Links,m.Data,E,m.Up⟩ t.Nodes) i d:=fun hd=>hd.congr fun j n hj _=>by
  rw [hgn]
  by_cases e:j=m.Ino
  ·rw [if_pos e]; rw [e,hg] at hj; cases hj; exact ⟨_,rfl,rfl,rfl⟩
  ·rw [if_neg e]; exact ⟨n,hj,rfl,rfl⟩
 have hnode:∀q,q∈t.Nodes→∀q':api_Node,q'.Ino=q.Ino→q'.Kind=q.Kind→q'.Up=q.Up→q'.Links=q.Links→q'.Data=q.Data→(q.Kind=1→q'.Ents=[])→NodeR (putL ⟨m.Ino,m.Kind,m.Links,m.Data,E,m.Up⟩ t.Nodes) δ' q':=by
  intro q hq q' e1 e2 e3 e4 e5 e6
  rcases h.nd q hq with hf | ⟨hk2,hdt,hr | hd⟩
  ·refine .inl ⟨by rw [e2,hf.1],e6 hf.1,by rw [e3,hf.2.2.1],by rw [e5]; exact hf.2.2.2.1,?_⟩
   have:=hf.2.2.2.2; have:=hcn q.Ino
   rw [e4,e1]; omega
  ·refine .inr ⟨by rw [e2,hk2],by rw [e5,hdt],.inl ⟨by rw [e1,hr.1],by rw [e3,hr.2.1],by rw [e4,hr.2.2.1],?_,?_⟩⟩ <;> (have:=hcn 1; omega)
  ·refine .inr ⟨by rw [e2,hk2],by rw [e5,hdt],.inr ⟨by rw [e1]; exact hd.1,by rw [e1,hcn]; exact hd.2.1,by rw [e4]; exact hd.2.2.1,fun h0=>?_⟩⟩
   rw [e1] at h0
   rw [e3,e1]
   have hq0:=hcnt q.Ino
   rcases Nat.eq_zero_or_pos (δ q.Ino) with hz | hz
   ·obtain ⟨p,hp,e,he,hei⟩:=hd.2.2.2 hz
    by_cases hpm:q.Up=m.Ino
    ·refine ⟨_,by rw [hgn,if_pos hpm],?_⟩
     rw [hpm,hg] at hp; cases hp
     have:0 < cE m.Ents q.Ino:=cE_pos.2 ⟨e,he,hei⟩
     exact cE_pos.1 (by dsimp only; omega)
    ·exact ⟨p,by rw [hgn,if_neg hpm,hp],e,he,hei⟩
   ·have hu:=hup q hq hk2 hz h0
    refine ⟨_,by rw [hgn,if_pos hu],?_⟩
    exact cE_pos.1 (by dsimp only; omega)
 refine ⟨putL_srt h.s,fun n hn=>?_,?_,?_,by dsimp only; omega,fun n hn=>?_,fun n hn e he=>?_,fun n hn=>?_,fun n hn hk'=>?_⟩
 ·rcases hmem hn with rfl | ⟨hn,-⟩
  ·exact h.lo m hm
  ·exact h.lo n hn
 ·obtain ⟨r,hr,hkr⟩:=h.rt
  dsimp only; rw [hgn]
  by_cases e:1=m.Ino
  ·exact ⟨⟨m.Ino,m.Kind,m.Links,m.Data,E,m.Up⟩,by rw [if_pos e],hk⟩
  ·exact ⟨r,by rw [if_neg e,hr],hkr⟩
 ·dsimp only; rw [putL_len2 h.s (by dsimp only; rw [hg]; rfl)]; exact h.len
 ·rcases hmem hn with rfl | ⟨hn,-⟩
  ·exact hE
  ·have:=h.en n hn
   exact ⟨this.n,this.s,fun e he=>⟨(this.r e he).1,by have:=(this.r e he).2; dsimp only; omega⟩,this.k⟩
 ·rcases hmem hn with rfl | ⟨hn,-⟩
  ·exact hsome _ (hcl e he)
  ·exact hsome _ (h.cl n hn e he)
 ·rcases hmem hn with rfl | ⟨hn,-⟩
  ·exact hnode m hm _ rfl rfl rfl rfl rfl (fun e=>by omega)
  ·exact hnode n hn n rfl rfl rfl rfl rfl (fun e=>by
    rcases h.nd n hn with hf | hf
    ·exact hf.2.1
    ·have:=hf.1; omega)
 ·rcases hmem hn with rfl | ⟨hn,-⟩
  ·obtain ⟨d,h1,h2,h3⟩:=h.dp m hm hk
   refine ⟨d,hdeep h1,h2,fun e=>?_⟩
   rcases hdp with h4 | h4 | ⟨d',h4,h5⟩
   ·exact h4
   ·exact absurd (h3 e) h4
   ·have:=h1.uniq h4; omega
  ·obtain ⟨d,h1,h2,h3⟩:=h.dp n hn hk'
   exact ⟨d,hdeep h1,h2,h3⟩
end
end Go.Proofs
