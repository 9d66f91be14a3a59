/- Shots, plain: what a step makes of a tree. No condition. -/
import Derived.Test.YthkdflbnmbnbaaaGreatXShotRightP10a
namespace Go.Proofs
set_option linter.all false
open Go Go.Cat
set_option linter.all false
theorem bo {a b:Bool} {x:Option Bool} (h:a=false→x=some b):(if a=true then some true else x)=some (a||b):=by
 cases a with
 | true=>rfl
 | false=>rw [if_neg (by simp),h rfl]; rfl
theorem ba {a b:Bool} {x:Option Bool} (h:a=true→x=some b):(if a=true then x else some false)=some (a&&b):=by
 cases a with
 | true=>rw [if_pos rfl,h rfl]; rfl
 | false=>rfl
structure TF (B:Nat) (t:api_Tree):Prop where
 n:t.Nodes.length≤B
 e:∀n,n∈t.Nodes→n.Ents.length≤B
 l:∀n,n∈t.Nodes→-(B:Int)≤n.Links∧n.Links≤B
 c:0≤t.Cookie∧t.Cookie≤B
 x:0≤t.Next∧t.Next≤B
theorem TF.up {B C:Nat} {t:api_Tree} (h:TF B t) (hC:B≤C):TF C t :=
 ⟨Nat.le_trans h.n hC,fun n hn=>Nat.le_trans (h.e n hn) hC,fun n hn=>by have:=h.l n hn; omega,by have:=h.c; omega,by have:=h.x; omega⟩
theorem gD_mem (l:List api_Node) (i:Int):gD l i∈l∨gD l i=nod0:=by
 unfold gD
 cases h:gN l i with
 | none=>exact .inr rfl
 | some n=>exact .inl (gN_some h).1
theorem TF.gE {B:Nat} {t:api_Tree} (h:TF B t) (i:Int):(gD t.Nodes i).Ents.length≤B:=by
 rcases gD_mem t.Nodes i with h1 | h1
 ·exact h.e _ h1
 ·rw [h1]; exact Nat.zero_le _
theorem TF.gL {B:Nat} {t:api_Tree} (h:TF B t) (i:Int):-(B:Int)≤(gD t.Nodes i).Links∧(gD t.Nodes i).Links≤B:=by
 rcases gD_mem t.Nodes i with h1 | h1
 ·exact h.l _ h1
 ·rw [h1]; show -(B:Int)≤0∧(0:Int)≤B; omega
theorem putL_mem {n x:api_Node}:∀{l:List api_Node},x∈putL n l→x=n∨(x∈l∧x.Ino≠n.Ino)∨(x∈l∧x.Ino < n.Ino)
 | [],h=>by simp [putL] at h; exact .inl h
 | y::r,h=>by
  rw [putL_cons] at h
  split at h
  ·rcases List.mem_cons.1 h with h | h
   ·exact .inl h
   ·obtain ⟨h1,h2⟩:=List.mem_filter.1 h
    exact .inr (.inl ⟨h1,by simpa using h2⟩)
  ·next hlt =>
   rcases List.mem_cons.1 h with h | h
   ·exact .inr (.inr ⟨by rw [h]; simp,by rw [h]; omega⟩)
   ·rcases putL_mem h with h | h | h
    ·exact .inl h
    ·exact .inr (.inl ⟨List.mem_cons_of_mem _ h.1,h.2⟩)
    ·exact .inr (.inr ⟨List.mem_cons_of_mem _ h.1,h.2⟩)
theorem putL_mem' {n x:api_Node} {l:List api_Node} (h:x∈putL n l):x=n∨(x∈l∧x.Ino≠n.Ino):=by
 rcases putL_mem h with h | h | h
 ·exact .inl h
 ·exact .inr h
 ·exact .inr ⟨h.1,by have:=h.2; omega⟩
theorem TF.put {B:Nat} {t:api_Tree} (h:TF B t) {n:api_Node} (h1:n.Ents.length≤B+1) (h2:-(B+1:Int)≤n.Links∧n.Links≤B+1) {x c:Int} (hx:0≤x∧x≤B+1) (hc:0≤c∧c≤B+1):TF (B+1) ⟨putL n t.Nodes,x,c⟩:=by
 refine ⟨Nat.le_trans (putL_len n t.Nodes) (Nat.succ_le_succ h.n),fun y hy=>?_,fun y hy=>?_,hc,hx⟩
 ·rcases putL_mem' hy with rfl | ⟨hy,-⟩
  ·exact h1
  ·have:=h.e _ hy; omega
 ·rcases putL_mem' hy with rfl | ⟨hy,-⟩
  ·exact h2
  ·have:=h.l _ hy; omega
theorem TF.drop {B:Nat} {t:api_Tree} (h:TF B t) (i:Int):TF B ⟨t.Nodes.filter (fun x=>x.Ino != i),t.Next,t.Cookie⟩ :=
 ⟨Nat.le_trans (List.length_filter_le _ _) h.n,fun y hy=>h.e _ (List.mem_filter.1 hy).1,fun y hy=>h.l _ (List.mem_filter.1 hy).1,h.c,h.x⟩
theorem TF.ent {B:Nat} {t:api_Tree} (h:TF B t) (i:Int) (s:List UInt8) (o:Int):TF (B+1) (entT t i s o):=by
 have h1:=h.gE i; have h2:=h.gL i; have h3:=h.c; have h4:=h.x
 exact h.put (by rw [insE_len]; omega) (by dsimp only; omega) (by omega) (by omega)
theorem TF.lef {B:Nat} {t:api_Tree} (h:TF B t) (i:Int) (s:List UInt8):TF (B+1) (lefT t i s):=by
 have h1:=h.gE i; have h2:=h.gL i; have h3:=h.c; have h4:=h.x
 exact h.put (Nat.le_trans (List.length_filter_le _ _) (by omega)) (by dsimp only; omega) (by omega) (by omega)
def unT (t:api_Tree) (i:Int):api_Tree:=if ((gD t.Nodes i).Kind == 2)=true then ⟨t.Nodes.filter (fun x=>x.Ino != i),t.Next,t.Cookie⟩ else ⟨putL ⟨(gD t.Nodes i).Ino,(gD t.Nodes i).Kind,(gD t.Nodes i).Links - 1,(gD t.Nodes i).Data,(gD t.Nodes i).Ents,(gD t.Nodes i).Up⟩ t.Nodes,t.Next,t.Cookie⟩
theorem TF.un {B:Nat} {t:api_Tree} (h:TF B t) (i:Int):TF (B+1) (unT t i):=by
 have h1:=h.gE i; have h2:=h.gL i; have h3:=h.c; have h4:=h.x
 unfold unT
 split
 ·exact (h.drop i).up (by omega)
 ·exact h.put (by dsimp only; omega) (by dsimp only; omega) (by omega) (by omega)
section
variable {B:Nat} {t:api_Tree}
theorem r_unnamed (h:TF B t) (hB:B≤100000) (i:Int):ref07N41 t i=some (unT t i):=by
 have h1:=h.n; have h2:=h.gL i
 unfold ref07N41 unT
 rw [r_Get t i (by omega),Option.bind_some]
 dsimp only
 split
 ·rw [r_without t i (by omega)]; rfl
 ·rw [chk_pos (by unfold InI64; omega),r_with _ _ (by omega)]; rfl
def fullP (t:api_Tree) (n:api_Node):Bool:=decide ((n.Ents.length:Int)≥64)||decide ((depN t.Nodes 201 n.Ino:Int)≥12)||decide (t.Cookie≥1099511627776)
theorem r_full (h:TF B t) (hB:B≤100000) (n:api_Node):ref07_full t n=some (fullP t n):=by
 have h1:=h.n
 unfold ref07_full fullP
 rw [bo (b:=decide ((depN t.Nodes 201 n.Ino:Int)≥12)) (fun _=>by rw [r_depth t _ (by omega)]; rfl),Option.bind_some,bo (b:=decide (t.Cookie≥1099511627776)) (fun _=>rfl)]
 rfl
def enterE (t:api_Tree) (i:Int) (s:List UInt8):Int:=if ((dirP t.Nodes i).2 != 0)=true then (dirP t.Nodes i).2 else if (!nameR s)=true then 60 else if (nmI (dirP t.Nodes i).1.Ents s).isSome=true then 71 else if fullP t (dirP t.Nodes i).1=true then 76 else 0
theorem dir_ents (h:TF B t) (i:Int):(dirP t.Nodes i).1.Ents.length≤B:=by
 unfold dirP; split
 ·split
  ·exact Nat.zero_le _
  ·exact h.gE i
 ·exact Nat.zero_le _
theorem r_enter (h:TF B t) (hB:B≤100000) (i:Int) (s:List UInt8):ref07_enter t i s=some (enterE t i s):=by
 have h1:=h.n; have h2:=dir_ents h i
 unfold ref07_enter enterE
 rw [r_dir t i (by omega),Option.bind_some]
 split
 ·rfl
 rw [r_name,Option.bind_some]
 split
 ·rfl
 rw [r_named _ _ (by omega),Option.bind_some,oI_pos]
 split
 ·rfl
 rw [r_full h hB,Option.bind_some]
 split <;> rfl
def addP (t:api_Tree) (i:Int) (s:List UInt8) (k:Int):api_Tree×Int×Int:=if ((k != 1)&&(k != 2))=true then (t,0,1) else if (enterE t i s != 0)=true then (t,0,enterE t i s) else if (decide ((t.Nodes.length:Int)≥200)||decide (t.Next≥1099511627776))=true then (t,0,76) else (entT ⟨putL ⟨t.Next,k,1,[],[],if (k == 2)=true then i else 0⟩ t.Nodes,t.Next+1,t.Cookie⟩ i s t.Next,t.Next,0)
theorem TF.add1 (h:TF B t) (k:Int) (u:Int):TF (B+1) ⟨putL ⟨t.Next,k,1,[],[],u⟩ t.Nodes,t.Next+1,t.Cookie⟩:=by
 have h3:=h.c; have h4:=h.x
 exact h.put (by simp) (by dsimp only; omega) (by omega) (by omega)
theorem r_Add (h:TF B t) (hB:B≤90000) (i:Int) (s:List UInt8) (k:Int):ref07_Add t i s k=some (addP t i s k):=by
 have h1:=h.n; have h3:=h.c; have h4:=h.x
 unfold ref07_Add addP
 rw [ba (b:=k != 2) (fun _=>rfl),Option.bind_some,Option.bind_some]
 split
 ·rfl
 rw [r_enter h (by omega),Option.bind_some]
 split
 ·rfl
 rw [bo (b:=decide (t.Next≥1099511627776)) (fun _=>rfl),Option.bind_some,Option.bind_some]
 split
 ·rfl
 have e:(if (k == 2)=true then some i else some 0)=some (if (k == 2)=true then i else 0):=by split <;> rfl
 rw [e,Option.bind_some,chk_pos (by unfold InI64; omega),r_with _ _ (by dsimp only; omega),Option.bind_some]
 have hf:=h.add1 k (if (k == 2)=true then i else 0)
 rw [r_entered _ _ _ _ (Nat.le_trans hf.n (by omega)) (Nat.le_trans (hf.gE i) (by omega)) (by have:=hf.c; omega)]; rfl
def lnP (t:api_Tree) (i to:Int) (s:List UInt8):api_Tree×Int:=if (!(gN t.Nodes i).isSome||((gD t.Nodes i).Kind == 1&&(gD t.Nodes i).Links == 0))=true then (t,70) else if ((gD t.Nodes i).Kind == 2)=true then (t,72) else if (enterE t to s != 0)=true then (t,enterE t to s) else (entT ⟨putL ⟨(gD t.Nodes i).Ino,(gD t.Nodes i).Kind,(gD t.Nodes i).Links+1,(gD t.Nodes i).Data,(gD t.Nodes i).Ents,(gD t.Nodes i).Up⟩ t.Nodes,t.Next,t.Cookie⟩ to s i,0)
theorem TF.ln1 (h:TF B t) (i:Int):TF (B+1) ⟨putL ⟨(gD t.Nodes i).Ino,(gD t.Nodes i).Kind,(gD t.Nodes i).Links+1,(gD t.Nodes i).Data,(gD t.Nodes i).Ents,(gD t.Nodes i).Up⟩ t.Nodes,t.Next,t.Cookie⟩:=by
 have h1:=h.gE i; have h2:=h.gL i; have h3:=h.c; have h4:=h.x
 exact h.put (by dsimp only; omega) (by dsimp only; omega) (by omega) (by omega)
theorem r_Ln (h:TF B t) (hB:B≤90000) (i to:Int) (s:List UInt8):ref07_Ln t i to s=some (lnP t i to s):=by
 have h1:=h.n; have h2:=h.gL i; have h3:=h.c; have h4:=h.x
 unfold ref07_Ln lnP
 rw [r_Get t i (by omega),Option.bind_some]
 dsimp only
 rw [ba (b:=(gD t.Nodes i).Links == 0) (fun _=>rfl),Option.bind_some,bo (b:=(gD t.Nodes i).Kind == 1&&(gD t.Nodes i).Links == 0) (fun _=>rfl),Option.bind_some,Option.bind_some]
 split
 ·rfl
 split
 ·rfl
 rw [r_enter h (by omega),Option.bind_some]
 split
 ·rfl
 have hf:=h.ln1 i
 rw [chk_pos (by unfold InI64; omega),r_with _ _ (by omega),Option.bind_some,r_entered _ _ _ _ (Nat.le_trans hf.n (by omega)) (Nat.le_trans (hf.gE to) (by omega)) (by have:=hf.c; omega)]; rfl
def lookP (t:api_Tree) (i:Int) (s:List UInt8):Int×Int:=if ((dirP t.Nodes i).2 != 0)=true then (0,(dirP t.Nodes i).2) else if (!nameR s)=true then (0,60) else match (dirP t.Nodes i).1.Ents.find? (fun e=>e.Name == s) with | some e=>(e.Ino,0) | none=>(0,70)
theorem r_Look (h:TF B t) (hB:B≤100000) (i:Int) (s:List UInt8):ref07_Look t i s=some (lookP t i s):=by
 have h1:=h.n; have h2:=dir_ents h i
 unfold ref07_Look lookP
 rw [r_dir t i (by omega),Option.bind_some]
 split
 ·rfl
 rw [r_name,Option.bind_some]
 split
 ·rfl
 rw [r_named _ _ (by omega),Option.bind_some]
 unfold nmI
 cases hk:(dirP t.Nodes i).1.Ents.findIdx? (fun e=>e.Name == s) with
 | none=>rw [find_no hk]; rfl
 | some k =>
  obtain ⟨x,hx,hf,-⟩:=find_at hk
  rw [hf,oI_neg,if_neg (by simp)]
  show (idx _ (k:Int)).bind _=_
  rw [idx_some hx]; rfl
def unP (t:api_Tree) (i:Int) (s:List UInt8):api_Tree×Int×Int:=if ((lookP t i s).2 != 0)=true then (t,0,(lookP t i s).2) else if decide (((gD t.Nodes (lookP t i s).1).Ents.length:Int) > 0)=true then (t,0,74) else (unT (lefT t i s) (lookP t i s).1,(lookP t i s).1,0)
theorem r_Un (h:TF B t) (hB:B≤90000) (i:Int) (s:List UInt8):ref07_Un t i s=some (unP t i s):=by
 have h1:=h.n
 unfold ref07_Un unP
 rw [r_Look h (by omega),Option.bind_some]
 split
 ·rfl
 rw [r_Get t _ (by omega),Option.bind_some]
 dsimp only
 split
 ·rfl
 rw [r_left t i s (by omega) (by have:=h.gE i; omega),Option.bind_some,r_unnamed (h.lef i s) (by omega)]; rfl
def clashP (t:api_Tree) (x:api_Node) (y:Int):Int:=if (!(gN t.Nodes y).isSome)=true then 0 else if (x.Kind == 2&&(gD t.Nodes y).Kind != 2)=true then 73 else if (x.Kind != 2&&(gD t.Nodes y).Kind == 2)=true then 72 else if decide (((gD t.Nodes y).Ents.length:Int) > 0)=true then 74 else 0
theorem r_clash (h:TF B t) (hB:B≤100000) (x:api_Node) (y:Int):ref07_clash t x y=some (clashP t x y):=by
 have h1:=h.n
 unfold ref07_clash clashP
 rw [r_Get t y (by omega),Option.bind_some]
 dsimp only
 split
 ·rfl
 rw [ba (b:=(gD t.Nodes y).Kind != 2) (fun _=>rfl),Option.bind_some,Option.bind_some]
 split
 ·rfl
 rw [ba (b:=(gD t.Nodes y).Kind == 2) (fun _=>rfl),Option.bind_some,Option.bind_some]
 split
 ·rfl
 split <;> rfl
def highP (l:List api_Node) (i a:Int):Int:=l.foldl (fun m n=>if (n.Kind == 2&&belP l n.Ino i)=true then max m (a+(depN l 201 n.Ino:Int) - (depN l 201 i:Int)+if decide ((n.Ents.length:Int) > 0)=true then 1 else 0) else m) 0
theorem r_high0 (dd:Int→Nat) (hD:∀j,ref07_depth t j=some (dd j:Int)) (hle:∀j,dd j≤201) (h:TF B t) (hB:B≤100000) (i a:Int) (ha:0≤a∧a≤1000):ref07_high t i a=some (t.Nodes.foldl (fun m n=>if (n.Kind == 2&&belP t.Nodes n.Ino i)=true then max m (a+(dd n.Ino:Int) - (dd i:Int)+if decide ((n.Ents.length:Int) > 0)=true then 1 else 0) else m) 0):=by
 have h1:=h.n
 unfold ref07_high
 rw [hD,Option.bind_some]
 unfold ref07N26
 have hd:=hle i
 rw [loop_each (b:=t.Nodes) (fun m n=>if (n.Kind == 2&&belP t.Nodes n.Ino i)=true then max m (a+(dd n.Ino:Int) - (dd i:Int)+if decide ((n.Ents.length:Int) > 0)=true then 1 else 0) else m) (fun _=>True) (fun a=>a) (fun m k n _ hn hk=>?_) (fun _ _ _ _=>trivial) (fun m _=>?_) 0 trivial,Option.bind_some]
 ·unfold ref07N25
  rw [if_pos (by simpa using hk),idx_some hn,Option.bind_some]
  rw [ba (b:=belP t.Nodes n.Ino i) (fun _=>by rw [r_Below t _ _ (by omega)]; rfl),Option.bind_some,Option.bind_some]
  have hd2:=hle n.Ino
  by_cases hc:(n.Kind == 2&&belP t.Nodes n.Ino i)=true
  ·rw [if_pos hc,if_pos hc,hD,Option.bind_some,chk_pos (by unfold InI64; omega),chk_pos (by unfold InI64; omega)]
   by_cases he:decide ((n.Ents.length:Int) > 0)=true
   ·rw [if_pos he,if_pos he,chk_pos (by unfold InI64; omega),Option.bind_some,Option.bind_some,chk_pos (by unfold InI64; omega)]
   ·rw [if_neg he,if_neg he,Option.bind_some,Option.bind_some,chk_pos (by unfold InI64; omega),Int.add_zero]
  ·rw [if_neg hc,if_neg hc,Option.bind_some,chk_pos (by unfold InI64; omega)]
 ·unfold ref07N25
  rw [if_neg (by simp)]; rfl
theorem r_high (h:TF B t) (hB:B≤100000) (i a:Int) (ha:0≤a∧a≤1000):ref07_high t i a=some (highP t.Nodes i a) :=
 r_high0 (fun j=>depN t.Nodes 201 j) (fun j=>r_depth t j (by have:=h.n; omega)) (fun j=>depN_le t.Nodes 201 j) h hB i a ha
end
end Go.Proofs
