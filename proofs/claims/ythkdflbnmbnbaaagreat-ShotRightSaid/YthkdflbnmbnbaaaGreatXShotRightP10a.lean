/- Shots, plain: trees, by number, put in, and left out. No condition. -/
import Derived.Test.YthkdflbnmbnbaaaGreatXShotRightP10h
namespace Go.Proofs
set_option linter.all false
open Go Go.Cat
set_option linter.all false
theorem Tot.eachG {β σ ρ:Type} {l:List β} {B:σ→Option (σ⊕ρ)} (cnt:σ→Int) (I:Nat→σ→Prop) {Q:ρ→Prop}
  (h1:∀(n:Nat) (x:β) (a:σ),n < l.length→l[n]?=some x→cnt a=n→I n a→Tot (B a) (RdP (fun s=>cnt s=(n:Int)+1∧I (n+1) s) Q))
  (h2:∀a,cnt a=l.length→I l.length a→Tot (B a) (RdP (fun _=>False) Q)) (a:σ) (hc:cnt a=0) (h0:I 0 a):Tot (Cat.loop B a) Q:=by
 refine Tot.loop (fun s:σ=>∃n:Nat,cnt s=n∧n≤l.length∧I n s) (fun s=>l.length+1 - (cnt s).toNat) ?_ a ⟨0,hc,Nat.zero_le _,h0⟩
 rintro a ⟨n,hn0,hn,hi⟩
 rcases Nat.lt_or_ge n l.length with hlt | hge
 ·refine (h1 n _ a hlt (List.getElem?_eq_getElem hlt) hn0 hi).mono fun y hy=>?_
  cases y with
  | inl s=>exact ⟨⟨n+1,hy.1,hlt,hy.2⟩,by show l.length+1 - (cnt s).toNat < _; rw [hy.1]; omega⟩
  | inr r=>exact hy
 ·obtain rfl:n=l.length:=by omega
  refine (h2 a hn0 hi).mono fun y hy=>?_
  cases y with
  | inl s=>exact hy.elim
  | inr r=>exact hy
theorem drop_cons {α:Type} {l:List α} {n:Nat} {x:α} (hx:l[n]?=some x):l.drop n=x::l.drop (n+1):=by
 obtain ⟨h3,rfl⟩:=List.getElem?_eq_some_iff.1 hx
 exact List.drop_eq_getElem_cons h3
theorem find_at {α:Type} {l:List α} {p:α→Bool} {n:Nat} (h:l.findIdx? p=some n):∃x,l[n]?=some x∧l.find? p=some x∧p x=true:=by
 obtain ⟨hn,hp,hb⟩:=List.findIdx?_eq_some_iff_getElem.1 h
 refine ⟨l[n],List.getElem?_eq_getElem hn,?_,hp⟩
 rw [List.find?_eq_some_iff_getElem]
 exact ⟨hp,n,hn,rfl,fun j hj=>by simpa using hb j hj⟩
theorem find_no {α:Type} {l:List α} {p:α→Bool} (h:l.findIdx? p=none):l.find? p=none:=by
 rw [List.findIdx?_eq_none_iff] at h
 rw [List.find?_eq_none]
 intro x hx; simp [h x hx]
def oI:Option Nat→Int
 | some k=>k
 | none=>-1
theorem oI_pos (o:Option Nat):decide (oI o≥0)=o.isSome:=by cases o <;> simp [oI]
theorem oI_neg (o:Option Nat):decide (oI o < 0)=!o.isSome:=by
 cases o with
 | none=>rfl
 | some n=>show decide ((n:Int) < 0)=false; rw [decide_eq_false_iff_not]; omega
def nod0:api_Node:=⟨0,0,0,[],[],0⟩
def gN (l:List api_Node) (i:Int):Option api_Node:=l.find? (fun n=>n.Ino == i)
def gD (l:List api_Node) (i:Int):api_Node:=(gN l i).getD nod0
theorem gN_some {l:List api_Node} {i:Int} {n:api_Node} (h:gN l i=some n):n∈l∧n.Ino=i:=⟨List.mem_of_find?_eq_some h,by simpa using List.find?_some h⟩
theorem gN_none {l:List api_Node} {i:Int}:gN l i=none↔∀n,n∈l→n.Ino≠i:=by
 unfold gN; rw [List.find?_eq_none]; simp
theorem r_place (t:api_Tree) (i:Int) (hl:t.Nodes.length≤1000000):ref07_place t i=some (oI (t.Nodes.findIdx? (fun n=>n.Ino == i))):=by
 unfold ref07_place ref07N39
 have:=loop_find (b:=t.Nodes) (B:=ref07N36 t i) (fun n=>n.Ino == i) (fun n _=>(n:Int)) (-1) ?_ ?_
 ·rw [this]
  refine congrArg some ?_
  cases h:t.Nodes.findIdx? (fun n=>n.Ino == i) with
  | none=>rfl
  | some n =>
   obtain ⟨x,hx,-⟩:=find_at h
   dsimp only; rw [hx]; rfl
 ·intro n x hx hn
  unfold ref07N36
  rw [if_pos (by simpa using hn),idx_some hx,Option.bind_some,chk_pos (by unfold InI64; omega)]
  rfl
 ·unfold ref07N36; rw [if_neg (by simp)]; rfl
theorem r_Get (t:api_Tree) (i:Int) (hl:t.Nodes.length≤1000000):ref07_Get t i=some (gD t.Nodes i,(gN t.Nodes i).isSome):=by
 unfold ref07_Get
 rw [r_place t i hl,Option.bind_some]
 unfold gD gN
 cases h:t.Nodes.findIdx? (fun n=>n.Ino == i) with
 | none=>rw [find_no h]; rfl
 | some n =>
  obtain ⟨x,hx,hf,-⟩:=find_at h
  rw [hf]
  rw [oI_neg,if_neg (by simp)]
  show (idx _ (n:Int)).bind _=_
  rw [idx_some hx]; rfl
def dirP (l:List api_Node) (i:Int):api_Node×Int:=if (gN l i).isSome then (if (gD l i).Kind != 2 then (nod0,73) else (gD l i,0)) else (nod0,70)
theorem r_dir (t:api_Tree) (i:Int) (hl:t.Nodes.length≤1000000):ref07_dir t i=some (dirP t.Nodes i):=by
 unfold ref07_dir dirP
 rw [r_Get t i hl,Option.bind_some]
 dsimp only
 cases (gN t.Nodes i).isSome with
 | false=>rfl
 | true=>rw [if_neg (by simp),if_pos rfl]; split <;> rfl
def nameR (s:List UInt8):Bool:=decide (1≤s.length)&&decide (s.length≤32)&&!(s == [46])&&!(s == [46,46])&&!(s.any fun x=>decide ((x.toNat:Int) < 32)||(x.toNat:Int) == 47)
theorem r_name (s:List UInt8):ref06_Right s=some (nameR s):=by
 unfold ref06_Right nameR ref06N5
 by_cases h1:s.length < 1
 ·rw [if_pos (by simp; omega)]; simp; omega
 by_cases h2:s.length > 32
 ·rw [if_neg (by simp; omega),Option.bind_some,if_pos (by simp; omega)]; simp; omega
 rw [if_neg (by simp; omega),Option.bind_some,if_neg (by simp; omega),Option.bind_some]
 by_cases h3:(s == [46,46])=true
 ·have:s=[46,46]:=by simpa using h3
  subst this; simp
 by_cases h4:(s == [46])=true
 ·have:s=[46]:=by simpa using h4
  subst this; simp
 rw [Bool.not_eq_true] at h3 h4
 simp only [h3,h4,Bool.false_eq_true,if_false,Option.bind_some]
 have:=loop_find (b:=s) (B:=ref06N2 s) (fun x=>decide ((x.toNat:Int) < 32)||(x.toNat:Int) == 47) (fun _ _=>false) true ?_ ?_
 ·rw [this]
  refine congrArg some ?_
  have e1:decide (1≤s.length)=true:=by simp; omega
  have e2:decide (s.length≤32)=true:=by simp; omega
  rw [e1,e2]
  cases h:s.findIdx? (fun x=>decide ((x.toNat:Int) < 32)||(x.toNat:Int) == 47) with
  | none =>
   have:(s.any fun x=>decide ((x.toNat:Int) < 32)||(x.toNat:Int) == 47)=false:=by
    rw [List.any_eq_false]; rw [List.findIdx?_eq_none_iff] at h; intro x hx; simp [h x hx]
   rw [this]; rfl
  | some n =>
   obtain ⟨x,hx,-,hp⟩:=find_at h
   dsimp only; rw [hx,List.any_eq_true.2 ⟨x,List.mem_of_getElem? hx,hp⟩]; rfl
 ·intro n x hx hn
  unfold ref06N2
  rw [if_pos (by simpa using hn),idx_some hx]
  simp only [Option.bind_some]
  by_cases h5:(x.toNat:Int) < 32
  ·simp [h5]; rfl
  ·simp only [decide_eq_false h5,Bool.false_eq_true,if_false,Option.bind_some,Bool.false_or]
   rw [chk_pos (by unfold InI64; omega)]; rfl
 ·unfold ref06N2; rw [if_neg (by simp)]; rfl
def nmI (l:List api_Ent) (s:List UInt8):Option Nat:=l.findIdx? (fun e=>e.Name == s)
theorem r_named (n:api_Node) (s:List UInt8) (hl:n.Ents.length≤1000000):ref07_named n s=some (oI (nmI n.Ents s)):=by
 unfold ref07_named ref07N33 nmI
 have:=loop_find (b:=n.Ents) (B:=ref07N30 n s) (fun e=>e.Name == s) (fun n _=>(n:Int)) (-1) ?_ ?_
 ·rw [this]
  refine congrArg some ?_
  cases h:n.Ents.findIdx? (fun e=>e.Name == s) with
  | none=>rfl
  | some n =>
   obtain ⟨x,hx,-⟩:=find_at h
   dsimp only; rw [hx]; rfl
 ·intro k x hx hn
  unfold ref07N30
  rw [if_pos (by simpa using hn),idx_some hx,Option.bind_some,chk_pos (by unfold InI64; omega)]
  rfl
 ·unfold ref07N30; rw [if_neg (by simp)]; rfl
def depN (l:List api_Node):Nat→Int→Nat
 | 0,_=>0
 | f+1,i=>if i=1 then 0 else depN l f (gD l i).Up+1
theorem depN_succ (l:List api_Node) (f:Nat) (i:Int):depN l (f+1) i=if i=1 then 0 else depN l f (gD l i).Up+1:=rfl
theorem depN_le (l:List api_Node):∀f i,depN l f i≤f
 | 0,_=>Nat.le_refl _
 | f+1,i=>by unfold depN; split; omega; have:=depN_le l f (gD l i).Up; omega
theorem r_depth (t:api_Tree) (i:Int) (hl:t.Nodes.length≤1000000):ref07_depth t i=some (depN t.Nodes 201 i:Int):=by
 unfold ref07_depth ref07N16
 have key:∀(f:Nat) (i d:Int),0≤d→d+f=201→loop (ref07N14 t) (i,d)=some (d+depN t.Nodes f i):=by
  intro f
  induction f with
  | zero =>
   intro i d h0 h1
   refine loop_inr ?_
   unfold ref07N14
   have:¬d≤200:=by omega
   have e:(depN t.Nodes 0 i:Int)=0:=rfl
   rw [e,Int.add_zero]
   by_cases hi:i=1 <;> simp [hi,this] <;> rfl
  | succ f ih =>
   intro i d h0 h1
   by_cases hi:i=1
   ·subst hi
    rw [loop_inr (r:=d)]
    ·simp [depN]
    ·unfold ref07N14; simp; rfl
   ·rw [loop_inl (s':=((gD t.Nodes i).Up,d+1)),ih _ _ (by omega) (by omega)]
    ·rw [depN_succ,if_neg hi]; refine congrArg some ?_; omega
    ·unfold ref07N14
     have:d≤200:=by omega
     have hi':(i != 1)=true:=by simpa using hi
     simp only [hi',this,decide_true,if_true,Option.bind_some]
     rw [r_Get t i hl,Option.bind_some,chk_pos (by unfold InI64; omega)]
 rw [key 201 i 0 (by omega) (by omega),Option.bind_some]
 simp
def belN (l:List api_Node) (o:Int):Nat→Int→Bool
 | 0,_=>false
 | f+1,i=>if i == o then true else if i == 1 then false else belN l o f (gD l i).Up
def belP (l:List api_Node) (i o:Int):Bool:=belN l o (l.length+1) i
theorem r_Below (t:api_Tree) (i o:Int) (hl:t.Nodes.length≤1000000):ref07_Below t i o=some (belP t.Nodes i o):=by
 unfold ref07_Below ref07N3 belP
 have key:∀(f:Nat) (i d:Int),0≤d→d+f=t.Nodes.length+1→loop (ref07N1 t o) (i,d)=some (belN t.Nodes o f i):=by
  intro f
  induction f with
  | zero =>
   intro i d h0 h1
   refine loop_inr ?_
   unfold ref07N1
   rw [if_neg (by simp; omega)]; rfl
  | succ f ih =>
   intro i d h0 h1
   unfold belN
   by_cases h2:(i == o)=true
   ·rw [if_pos h2]
    refine loop_inr ?_
    unfold ref07N1
    rw [if_pos (by simp; omega),if_pos h2]; rfl
   by_cases h3:(i == 1)=true
   ·rw [if_neg h2,if_pos h3]
    refine loop_inr ?_
    unfold ref07N1
    rw [if_pos (by simp; omega),if_neg h2,if_pos h3]; rfl
   rw [if_neg h2,if_neg h3,loop_inl (s':=((gD t.Nodes i).Up,d+1)),ih _ _ (by omega) (by omega)]
   unfold ref07N1
   rw [if_pos (by simp; omega),if_neg h2,if_neg h3,r_Get t i hl,Option.bind_some,chk_pos (by unfold InI64; omega)]
 exact key _ i 0 (by omega) (by omega)
def putL (n:api_Node):List api_Node→List api_Node
 | []=>[n]
 | x::r=>if x.Ino≥n.Ino then n::(x::r).filter (fun y=>y.Ino != n.Ino) else x::putL n r
theorem putL_cons (n x:api_Node) (r:List api_Node):putL n (x::r)=if x.Ino≥n.Ino then n::(x::r).filter (fun y=>y.Ino != n.Ino) else x::putL n r:=rfl
theorem putL_len (n:api_Node):∀l,(putL n l).length≤l.length+1
 | []=>Nat.le_refl _
 | x::r=>by
  unfold putL
  split
  ·have:=List.length_filter_le (fun y:api_Node=>y.Ino != n.Ino) (x::r); simp only [List.length_cons] at *; omega
  ·have:=putL_len n r; simp only [List.length_cons]; omega
theorem r_with (t:api_Tree) (n:api_Node) (hl:t.Nodes.length≤1000000):ref07_with t n=some ⟨putL n t.Nodes,t.Next,t.Cookie⟩:=by
 refine Tot.eq ?_
 unfold ref07_with ref07N44
 refine Tot.bind (R:=fun v:Bool×List api_Node=>(if v.1 then v.2 else v.2++[n])=putL n t.Nodes∧v.2.length≤1000001) ?_ fun v hv=>?_
 ·refine Tot.eachG (l:=t.Nodes) (fun s:Bool×Int×List api_Node=>s.2.1) (fun k s=>(if s.1 then s.2.2++(t.Nodes.drop k).filter (fun y=>y.Ino != n.Ino) else s.2.2++putL n (t.Nodes.drop k))=putL n t.Nodes∧s.2.2.length≤k+(if s.1 then 1 else 0)) (fun k x s hlt hx hc hi=>?_) (fun s hc hi=>?_) _ rfl ⟨by simp,by simp⟩
  ·obtain ⟨d,c,o⟩:=s
   dsimp only at hc hi ⊢
   subst hc
   obtain ⟨he,hlen⟩:=hi
   rw [drop_cons hx] at he
   unfold ref07N42
   refine Tot.cond (by simpa using hlt) ?_
   dsimp only
   rw [idx_some hx]
   simp only [Option.bind_some]
   cases d with
   | true =>
    simp only [Bool.not_true,Bool.false_eq_true,if_false,Option.bind_some,if_true] at *
    rw [List.filter_cons] at he
    by_cases hne:(x.Ino != n.Ino)=true
    ·rw [if_pos hne] at he ⊢
     exact Tot.bindeq (chk_pos (by simp only [List.length_cons,List.length_nil]; omega)) (Tot.chk (by unfold InI64; omega) (Tot.inl ⟨rfl,by simpa using he,by simp; omega⟩))
    ·rw [if_neg hne] at he ⊢
     exact Tot.bindeq rfl (Tot.chk (by unfold InI64; omega) (Tot.inl ⟨rfl,by simpa using he,by simp; omega⟩))
   | false =>
    simp only [Bool.not_false,Bool.false_eq_true,if_true,if_false,Option.bind_some] at *
    rw [putL_cons] at he
    by_cases hge:x.Ino≥n.Ino
    ·rw [if_pos hge,List.filter_cons] at he
     simp only [hge,decide_true,if_true]
     rw [chk_pos (by simp only [List.length_cons,List.length_nil]; omega),Option.bind_some]
     by_cases hne:(x.Ino != n.Ino)=true
     ·rw [if_pos hne] at he ⊢
      exact Tot.bindeq (chk_pos (by simp only [List.length_append,List.length_cons,List.length_nil]; omega)) (Tot.chk (by unfold InI64; omega) (Tot.inl ⟨rfl,by simpa using he,by simp; omega⟩))
     ·rw [if_neg hne] at he ⊢
      exact Tot.bindeq rfl (Tot.chk (by unfold InI64; omega) (Tot.inl ⟨rfl,by simpa using he,by simp; omega⟩))
    ·rw [if_neg hge] at he
     have hne:(x.Ino != n.Ino)=true:=by simp; omega
     simp only [hge,decide_false,Bool.false_eq_true,if_false,Option.bind_some]
     rw [if_pos hne]
     exact Tot.bindeq (chk_pos (by simp only [List.length_cons,List.length_nil]; omega)) (Tot.chk (by unfold InI64; omega) (Tot.inl ⟨rfl,by simpa using he,by simp; omega⟩))
  ·obtain ⟨d,c,o⟩:=s
   dsimp only at hc hi ⊢
   subst hc
   obtain ⟨he,hlen⟩:=hi
   rw [List.drop_length] at he
   unfold ref07N42
   refine Tot.ncond (by simp) (Tot.out (Tot.ret ⟨?_,?_⟩))
   ·cases d <;> simpa [putL] using he
   ·dsimp only; split at hlen <;> omega
 ·obtain ⟨d,o⟩:=v
  obtain ⟨he,hlen⟩:=hv
  dsimp only at he hlen ⊢
  cases d with
  | true=>exact Tot.ret (by simp only [if_true] at he; rw [←he])
  | false =>
   simp only [Bool.false_eq_true,if_false] at he
   simp only [Bool.not_false,if_true]
   exact Tot.bindeq (chk_pos (by simp only [List.length_cons,List.length_nil]; omega)) (Tot.ret (by rw [←he]))
theorem r_without (t:api_Tree) (i:Int) (hl:t.Nodes.length≤1000000):ref07N46 t i=some ⟨t.Nodes.filter (fun x=>x.Ino != i),t.Next,t.Cookie⟩:=by
 refine Tot.eq ?_
 unfold ref07N46 ref07N48
 refine Tot.bind (R:=(·=t.Nodes.filter (fun x=>x.Ino != i))) ?_ fun v hv=>Tot.ret (by rw [hv])
 refine Tot.each (l:=t.Nodes) (fun k a=>a=(t.Nodes.take k).filter (fun x=>x.Ino != i)) (fun k x a hlt hx ha=>?_) (fun a ha=>?_) _ rfl
 ·unfold ref07N47
  have hal:a.length≤k:=by rw [ha]; exact Nat.le_trans (List.length_filter_le _ _) (by rw [List.length_take]; omega)
  refine Tot.cond (by simpa using hlt) ?_
  dsimp only
  rw [idx_some hx,Option.bind_some]
  by_cases hne:(x.Ino != i)=true
  ·rw [if_pos hne]
   exact Tot.bindeq (chk_pos (by simp only [List.length_cons,List.length_nil]; omega)) (Tot.chk (by unfold InI64; omega) (Tot.inl ⟨rfl,by rw [take_snoc hx,List.filter_append,←ha]; simp [hne]⟩))
  ·rw [if_neg hne]
   exact Tot.bindeq rfl (Tot.chk (by unfold InI64; omega) (Tot.inl ⟨rfl,by rw [take_snoc hx,List.filter_append,←ha]; simp [hne]⟩))
 ·unfold ref07N47
  rw [List.take_length] at ha
  exact Tot.ncond (by simp) (Tot.out (Tot.ret ha))
def insE (e:api_Ent):List api_Ent→List api_Ent
 | []=>[e]
 | x::r=>if (!(Op.bytesLess x.Name e.Name||x.Name == e.Name))=true then e::x::r else x::insE e r
theorem insE_cons (e x:api_Ent) (r:List api_Ent):insE e (x::r)=if (!(Op.bytesLess x.Name e.Name||x.Name == e.Name))=true then e::x::r else x::insE e r:=rfl
theorem insE_len (e:api_Ent):∀l,(insE e l).length=l.length+1
 | []=>rfl
 | x::r=>by unfold insE; split; rfl; simp only [List.length_cons,insE_len e r]
def entT (t:api_Tree) (i:Int) (s:List UInt8) (o:Int):api_Tree:=⟨putL ⟨(gD t.Nodes i).Ino,(gD t.Nodes i).Kind,(gD t.Nodes i).Links,(gD t.Nodes i).Data,insE ⟨s,o,t.Cookie⟩ (gD t.Nodes i).Ents,(gD t.Nodes i).Up⟩ t.Nodes,t.Next,t.Cookie+1⟩
theorem r_entered (t:api_Tree) (i:Int) (s:List UInt8) (o:Int) (hl:t.Nodes.length≤1000000) (he:(gD t.Nodes i).Ents.length≤1000000) (hc:0≤t.Cookie∧t.Cookie≤10000000000000):ref07N19 t i s o=some (entT t i s o):=by
 refine Tot.eq ?_
 unfold ref07N19 ref07N23
 refine Tot.bindeq (r_Get t i hl) ?_
 refine Tot.bind (R:=fun v:Bool×List api_Ent=>(if v.1 then v.2 else v.2++[⟨s,o,t.Cookie⟩])=insE ⟨s,o,t.Cookie⟩ (gD t.Nodes i).Ents∧v.2.length≤1000001) ?_ fun v hv=>?_
 ·refine Tot.eachG (l:=(gD t.Nodes i).Ents) (fun s:Bool×Int×List api_Ent=>s.2.1) (fun k a=>(if a.1 then a.2.2++((gD t.Nodes i).Ents.drop k) else a.2.2++insE ⟨s,o,t.Cookie⟩ ((gD t.Nodes i).Ents.drop k))=insE ⟨s,o,t.Cookie⟩ (gD t.Nodes i).Ents∧a.2.2.length≤k+(if a.1 then 1 else 0)) (fun k x a hlt hx hc hi=>?_) (fun a hc hi=>?_) _ rfl ⟨by simp,by simp⟩
  ·obtain ⟨d,c,u⟩:=a
   dsimp only at hc hi ⊢
   subst hc
   obtain ⟨he,hlen⟩:=hi
   rw [drop_cons hx] at he
   unfold ref07N21
   refine Tot.cond (by simpa using hlt) ?_
   dsimp only
   rw [idx_some hx]
   simp only [Option.bind_some]
   cases d with
   | true =>
    simp only [Bool.not_true,Bool.false_eq_true,if_false,Option.bind_some,if_true] at *
    exact Tot.chk (by simp only [List.length_cons,List.length_nil]; omega) (Tot.chk (by unfold InI64; omega) (Tot.inl ⟨rfl,by simpa using he,by simp; omega⟩))
   | false =>
    simp only [Bool.not_false,Bool.false_eq_true,if_true,if_false,Option.bind_some] at *
    rw [insE_cons] at he
    by_cases hge:(!(Op.bytesLess x.Name s||x.Name == s))=true
    ·rw [if_pos hge] at he ⊢
     rw [chk_pos (by simp only [List.length_cons,List.length_nil]; omega),Option.bind_some]
     exact Tot.chk (by simp only [List.length_append,List.length_cons,List.length_nil]; omega) (Tot.chk (by unfold InI64; omega) (Tot.inl ⟨rfl,by simpa using he,by simp; omega⟩))
    ·rw [if_neg hge] at he ⊢
     rw [Option.bind_some]
     exact Tot.chk (by simp only [List.length_cons,List.length_nil]; omega) (Tot.chk (by unfold InI64; omega) (Tot.inl ⟨rfl,by simpa using he,by simp; omega⟩))
  ·obtain ⟨d,c,u⟩:=a
   dsimp only at hc hi ⊢
   subst hc
   obtain ⟨he,hlen⟩:=hi
   rw [List.drop_length] at he
   unfold ref07N21
   refine Tot.ncond (by simp) (Tot.out (Tot.ret ⟨?_,?_⟩))
   ·cases d <;> simpa [insE] using he
   ·dsimp only; split at hlen <;> omega
 ·obtain ⟨d,u⟩:=v
  obtain ⟨he,hlen⟩:=hv
  dsimp only at he hlen ⊢
  have e2:(if (!d)=true then chk ((u.length+[(⟨s,o,t.Cookie⟩:api_Ent)].length) * 32≤140737488355328) (some (u++[(⟨s,o,t.Cookie⟩:api_Ent)])) else some u)=some (insE ⟨s,o,t.Cookie⟩ (gD t.Nodes i).Ents):=by
   cases d with
   | true=>simp only [if_true] at he; rw [←he]; rfl
   | false=>simp only [Bool.false_eq_true,if_false] at he; simp only [Bool.not_false,if_true]; rw [chk_pos (by simp only [List.length_cons,List.length_nil]; omega),he]
  exact Tot.bindeq e2 (Tot.chk (by unfold InI64; omega) (Tot.bindeq (r_with _ _ hl) (Tot.ret rfl)))
def lefT (t:api_Tree) (i:Int) (s:List UInt8):api_Tree:=⟨putL ⟨(gD t.Nodes i).Ino,(gD t.Nodes i).Kind,(gD t.Nodes i).Links,(gD t.Nodes i).Data,(gD t.Nodes i).Ents.filter (fun e=>!(e.Name == s)),(gD t.Nodes i).Up⟩ t.Nodes,t.Next,t.Cookie⟩
theorem r_left (t:api_Tree) (i:Int) (s:List UInt8) (hl:t.Nodes.length≤1000000) (he:(gD t.Nodes i).Ents.length≤1000000):ref07_left t i s=some (lefT t i s):=by
 refine Tot.eq ?_
 unfold ref07_left ref07N28
 refine Tot.bindeq (r_Get t i hl) ?_
 refine Tot.bind (R:=(·=(gD t.Nodes i).Ents.filter (fun e=>!(e.Name == s)))) ?_ fun v hv=>Tot.bindeq (r_with _ _ hl) (Tot.ret (by rw [hv]; rfl))
 refine Tot.each (l:=(gD t.Nodes i).Ents) (fun k a=>a=((gD t.Nodes i).Ents.take k).filter (fun e=>!(e.Name == s))) (fun k x a hlt hx ha=>?_) (fun a ha=>?_) _ rfl
 ·unfold ref07N27
  have hal:a.length≤k:=by rw [ha]; exact Nat.le_trans (List.length_filter_le _ _) (by rw [List.length_take]; omega)
  refine Tot.cond (by simpa using hlt) ?_
  dsimp only
  rw [idx_some hx,Option.bind_some]
  by_cases hne:(!(x.Name == s))=true
  ·rw [if_pos hne]
   exact Tot.bindeq (chk_pos (by simp only [List.length_cons,List.length_nil]; omega)) (Tot.chk (by unfold InI64; omega) (Tot.inl ⟨rfl,by rw [take_snoc hx,List.filter_append,←ha,List.filter_cons,if_pos hne]; rfl⟩))
  ·rw [if_neg hne]
   exact Tot.bindeq rfl (Tot.chk (by unfold InI64; omega) (Tot.inl ⟨rfl,by rw [take_snoc hx,List.filter_append,←ha,List.filter_cons,if_neg hne]; simp⟩))
 ·unfold ref07N27
  rw [List.take_length] at ha
  exact Tot.ncond (by simp) (Tot.out (Tot.ret ha))
end Go.Proofs
