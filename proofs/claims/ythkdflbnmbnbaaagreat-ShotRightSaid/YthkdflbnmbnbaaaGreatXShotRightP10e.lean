/- Shots, plain: what is alike. No condition. -/
import Derived.Test.YthkdflbnmbnbaaaGreatXShotRightP10d
namespace Go.Proofs
set_option linter.all false
open Go Go.Cat
set_option linter.all false
theorem Tot.same {α ρ:Type} {a b:List α} {B:Int→Option (Int⊕ρ)} {Q:ρ→Prop} (hab:a.length=b.length)
  (h1:∀(n:Nat) (x y:α),n < a.length→a[n]?=some x→b[n]?=some y→Tot (B (n:Int)) (fun r=>(x=y∧r=.inl ((n:Int)+1))∨(x≠y∧∃q,r=.inr q∧(a≠b→Q q))))
  (h2:a=b→Tot (B (a.length:Int)) (fun r=>∃q,r=.inr q∧Q q)):Tot (Cat.loop B 0) Q:=by
 refine Tot.each0 (l:=a) (fun n=>a.take n=b.take n) (fun n x hlt hx hi=>?_) (fun hi=>?_) (by simp)
 ·have hy:=List.getElem?_eq_getElem (show n < b.length by omega)
  refine (h1 n x _ hlt hx hy).mono ?_
  rintro r (⟨he,rfl⟩ | ⟨he,q,rfl,hq⟩)
  ·exact ⟨rfl,by rw [take_snoc hx,take_snoc hy,hi,he]⟩
  ·exact hq fun e=>he (by subst e; rw [hx] at hy; exact Option.some.inj hy)
 ·rw [List.take_length,hab,List.take_length] at hi
  refine (h2 hi).mono ?_
  rintro r ⟨q,rfl,hq⟩
  exact hq
theorem ent_eq {x y:api_Ent}:(x.Name == y.Name&&(x.Ino == y.Ino&&(x.Cookie == y.Cookie&&true)))=true↔x=y:=by
 cases x; cases y; simp
theorem r_SameEnts (a b:List api_Ent) (hl:a.length≤1000000):Tot (ref07N4 a b) (Tells (a=b)):=by
 unfold ref07N4
 refine Tot.ite (fun e=>Tot.ret (Tells.no fun h=>?_)) fun e=>?_
 ·simp [h] at e
 have hab:a.length=b.length:=by simp at e; omega
 unfold ref07N7
 refine Tot.same hab (fun n x y hn hx hy=>?_) fun he=>?_
 ·unfold ref07N5
  refine Tot.cond (by simpa using hn) (Tot.bindeq (idx_some hx) (Tot.bindeq (idx_some hy) ?_))
  by_cases h:x=y
  ·rw [if_neg (by rw [ent_eq.2 h]; simp),chk_pos (by unfold InI64; omega)]
   exact Tot.ret (.inl ⟨h,rfl⟩)
  ·rw [if_pos (by rw [Bool.not_eq_true',←Bool.not_eq_true,ent_eq]; exact h)]
   exact ⟨_,rfl,.inr ⟨h,_,rfl,fun hne=>Tells.no hne⟩⟩
 ·unfold ref07N5
  exact Tot.ncond (by simp) ⟨_,rfl,_,rfl,Tells.yes he⟩
theorem r_EqualEnts (a b:List api_Ent) (hl:a.length≤1000000):Tot (slicesN30 a b) (Tells (a=b)):=by
 unfold slicesN30
 refine Tot.ite (fun e=>Tot.ret (Tells.no fun h=>?_)) fun e=>?_
 ·simp [h] at e
 have hab:a.length=b.length:=by simp at e; omega
 unfold slicesN35
 refine Tot.same hab (fun n x y hn hx hy=>?_) fun he=>?_
 ·unfold slicesN32
  refine Tot.cond (by simpa using hn) (Tot.bindeq (idx_some hx) (Tot.bindeq (idx_some hy) ?_))
  by_cases h:x=y
  ·rw [if_neg (by rw [ent_eq.2 h]; simp),chk_pos (by unfold InI64; omega)]
   exact Tot.ret (.inl ⟨h,rfl⟩)
  ·rw [if_pos (by rw [Bool.not_eq_true',←Bool.not_eq_true,ent_eq]; exact h)]
   exact ⟨_,rfl,.inr ⟨h,_,rfl,fun hne=>Tells.no hne⟩⟩
 ·unfold slicesN32
  exact Tot.ncond (by simp) ⟨_,rfl,_,rfl,Tells.yes he⟩
theorem node_eq {a b:api_Node}:a=b↔a.Ino=b.Ino∧a.Kind=b.Kind∧a.Links=b.Links∧a.Up=b.Up∧a.Data=b.Data∧a.Ents=b.Ents:=by
 constructor
 ·rintro rfl; exact ⟨rfl,rfl,rfl,rfl,rfl,rfl⟩
 ·obtain ⟨a1,a2,a3,a4,a5,a6⟩:=a; obtain ⟨b1,b2,b3,b4,b5,b6⟩:=b
  rintro ⟨h1,h2,h3,h6,h4,h5⟩; dsimp only at *; subst h1 h2 h3 h4 h5 h6; rfl
def hdE (a b:api_Node):Bool:=a.Ino == b.Ino&&a.Kind == b.Kind&&a.Links == b.Links&&a.Up == b.Up&&a.Data == b.Data
theorem hdE_iff {a b:api_Node}:(hdE a b=true∧a.Ents=b.Ents)↔a=b:=by
 rw [node_eq]; unfold hdE; simp [and_assoc]
theorem r_SameNode (a b:api_Node) (hl:a.Ents.length≤1000000):Tot (ref07N8 a b) (Tells (a=b)):=by
 unfold ref07N8
 rw [bo (b:=a.Kind != b.Kind) (fun _=>rfl),Option.bind_some,bo (b:=a.Links != b.Links) (fun _=>rfl),Option.bind_some,bo (b:=a.Up != b.Up) (fun _=>rfl),Option.bind_some,bo (b:=!(a.Data == b.Data)) (fun _=>rfl),Option.bind_some,Option.bind_some]
 have e:(a.Ino != b.Ino||a.Kind != b.Kind||a.Links != b.Links||a.Up != b.Up||!(a.Data == b.Data))=!hdE a b:=by unfold hdE; simp [bne,Bool.not_and]
 rw [e]
 refine Tot.ite (fun h=>Tot.ret (Tells.no fun hab=>?_)) fun h=>?_
 ·rw [Bool.not_eq_true',←Bool.not_eq_true] at h; exact h (hdE_iff.2 hab).1
 ·have h:hdE a b=true:=by simpa using h
  refine Tot.bind (r_SameEnts a.Ents b.Ents hl) fun r hr=>Tot.ret (hr.trans ?_)
  rw [←hdE_iff]; simp [h]
theorem r_node0 (a b:api_Node) (hl:a.Ents.length≤1000000):Tot (shot_node a b) (Tells (a=b)):=by
 unfold shot_node
 rw [ba (b:=a.Kind == b.Kind) (fun _=>rfl),Option.bind_some,ba (b:=a.Links == b.Links) (fun _=>rfl),Option.bind_some,ba (b:=a.Up == b.Up) (fun _=>rfl),Option.bind_some,ba (b:=a.Data == b.Data) (fun _=>rfl),Option.bind_some]
 show Tot (((if hdE a b=true then _ else _:Option Bool).bind _).bind _) _
 refine Tot.bind (R:=Tells (a=b)) (Tot.bind (R:=Tells (a=b)) ?_ fun r hr=>Tot.ret hr) fun r hr=>Tot.ret hr
 refine Tot.ite (fun h=>?_) fun h=>Tot.ret (Tells.no fun hab=>h (hdE_iff.2 hab).1)
 refine Tot.bind (r_EqualEnts a.Ents b.Ents hl) fun r hr=>Tot.ret (hr.trans ?_)
 rw [←hdE_iff]; simp [h]
theorem r_tSame1 (a b:api_Node) (hl:a.Ents.length≤1000000):Tot (tree_Same_1 a b) (Tells (a=b)):=by
 unfold tree_Same_1 bytes_Equal
 simp only [Option.bind_some]
 rw [ba (b:=a.Kind == b.Kind) (fun _=>rfl),Option.bind_some,ba (b:=a.Links == b.Links) (fun _=>rfl),Option.bind_some,ba (b:=a.Up == b.Up) (fun _=>rfl),Option.bind_some,ba (b:=a.Data == b.Data) (fun _=>rfl),Option.bind_some]
 show Tot (((if hdE a b=true then _ else _:Option Bool).bind _).bind _) _
 refine Tot.bind (R:=Tells (a=b)) (Tot.bind (R:=Tells (a=b)) ?_ fun r hr=>Tot.ret hr) fun r hr=>Tot.ret hr
 refine Tot.ite (fun h=>?_) fun h=>Tot.ret (Tells.no fun hab=>h (hdE_iff.2 hab).1)
 refine Tot.bind (r_EqualEnts a.Ents b.Ents hl) fun r hr=>Tot.ret (hr.trans ?_)
 rw [←hdE_iff]; simp [h]
theorem r_SameNodes (a b:List api_Node) (hl:a.length≤1000000) (he:∀n,n∈a→n.Ents.length≤1000000):Tot (ref07N9 a b) (Tells (a=b)):=by
 unfold ref07N9
 refine Tot.ite (fun e=>Tot.ret (Tells.no fun h=>?_)) fun e=>?_
 ·simp [h] at e
 have hab:a.length=b.length:=by simp at e; omega
 unfold ref07N12
 refine Tot.same hab (fun n x y hn hx hy=>?_) fun he=>?_
 ·unfold ref07N10
  refine Tot.cond (by simpa using hn) (Tot.bindeq (idx_some hx) (Tot.bindeq (idx_some hy) (Tot.bind (r_SameNode x y (he x (List.mem_of_getElem? hx))) fun r hr=>?_)))
  by_cases h:x=y
  ·rw [if_neg (by rw [hr.2 h]; simp),chk_pos (by unfold InI64; omega)]
   exact Tot.ret (.inl ⟨h,rfl⟩)
  ·rw [if_pos (by rw [Bool.not_eq_true',←Bool.not_eq_true]; exact fun e=>h (hr.1 e))]
   exact ⟨_,rfl,.inr ⟨h,_,rfl,fun hne=>Tells.no hne⟩⟩
 ·unfold ref07N10
  exact Tot.ncond (by simp) ⟨_,rfl,_,rfl,Tells.yes he⟩
theorem r_tSameN (a b:List api_Node) (hl:a.length≤1000000) (he:∀n,n∈a→n.Ents.length≤1000000):Tot (slicesN23 a b) (Tells (a=b)):=by
 unfold slicesN23
 refine Tot.ite (fun e=>Tot.ret (Tells.no fun h=>?_)) fun e=>?_
 ·simp [h] at e
 have hab:a.length=b.length:=by simp at e; omega
 unfold slicesN28
 refine Tot.same hab (fun n x y hn hx hy=>?_) fun he=>?_
 ·unfold slicesN25
  refine Tot.cond (by simpa using hn) (Tot.bindeq (idx_some hx) (Tot.bindeq (idx_some hy) (Tot.bind (r_tSame1 x y (he x (List.mem_of_getElem? hx))) fun r hr=>?_)))
  by_cases h:x=y
  ·rw [if_neg (by rw [hr.2 h]; simp),chk_pos (by unfold InI64; omega)]
   exact Tot.ret (.inl ⟨h,rfl⟩)
  ·rw [if_pos (by rw [Bool.not_eq_true',←Bool.not_eq_true]; exact fun e=>h (hr.1 e))]
   exact ⟨_,rfl,.inr ⟨h,_,rfl,fun hne=>Tells.no hne⟩⟩
 ·unfold slicesN25
  exact Tot.ncond (by simp) ⟨_,rfl,_,rfl,Tells.yes he⟩
theorem tree_eq {a b:api_Tree}:a=b↔(a.Next=b.Next∧a.Cookie=b.Cookie)∧a.Nodes=b.Nodes:=by
 cases a; cases b; simp; constructor
 ·rintro ⟨h1,h2,h3⟩; exact ⟨⟨h2,h3⟩,h1⟩
 ·rintro ⟨⟨h2,h3⟩,h1⟩; exact ⟨h1,h2,h3⟩
section
variable {B:Nat} {a b:api_Tree}
theorem r_SameT (h:TF B a) (hB:B≤100000):Tot (ref07_Same a b) (Tells (a=b)):=by
 have h1:=h.n
 unfold ref07_Same
 refine Tot.bind (R:=Tells (a=b)) (Tot.bind (R:=Tells (a.Next=b.Next∧a.Cookie=b.Cookie)) (Tot.andI (by simp) fun _=>Tot.is (by simp)) fun c hc=>Tot.bind (R:=Tells ((a.Next=b.Next∧a.Cookie=b.Cookie)∧a.Nodes=b.Nodes)) (Tot.andI hc fun _=>Tot.bind (r_SameNodes a.Nodes b.Nodes (by omega) fun n hn=>Nat.le_trans (h.e n hn) (by omega)) fun r hr=>Tot.ret hr) fun r hr=>Tot.ret (hr.trans tree_eq.symm)) fun r hr=>Tot.ret hr
theorem p_SameT (h:TF B a) (hB:B≤100000):Tot (tree_Same a b) (Tells (a=b)):=by
 have h1:=h.n
 unfold tree_Same
 refine Tot.bind (R:=Tells (a=b)) (Tot.bind (R:=Tells (a.Next=b.Next∧a.Cookie=b.Cookie)) (Tot.andI (by simp) fun _=>Tot.is (by simp)) fun c hc=>Tot.bind (R:=Tells ((a.Next=b.Next∧a.Cookie=b.Cookie)∧a.Nodes=b.Nodes)) (Tot.andI hc fun _=>Tot.bind (r_tSameN a.Nodes b.Nodes (by omega) fun n hn=>Nat.le_trans (h.e n hn) (by omega)) fun r hr=>Tot.ret hr) fun r hr=>Tot.ret (hr.trans tree_eq.symm)) fun r hr=>Tot.ret hr
end
theorem shots_eq {a b:api_Shots}:a=b↔a.Now=b.Now∧a.Tick=b.Tick∧a.Next=b.Next∧a.Since=b.Since∧a.Pasts=b.Pasts∧a.Taken=b.Taken:=by
 constructor
 ·rintro rfl; exact ⟨rfl,rfl,rfl,rfl,rfl,rfl⟩
 ·obtain ⟨a1,a2,a3,a4,a5,a6⟩:=a; obtain ⟨b1,b2,b3,b4,b5,b6⟩:=b
  rintro ⟨h1,h2,h6,h3,h4,h5⟩; dsimp only at *; subst h1 h2 h3 h4 h5 h6; rfl
theorem past_eq {x y:api_Past}:x=y↔(x.From=y.From∧x.Till=y.Till)∧x.Node=y.Node:=by cases x; cases y; simp [and_assoc]
theorem shot_eq {x y:api_Shot}:(x.Id == y.Id&&(x.Ino == y.Ino&&(x.At == y.At&&true)))=true↔x=y:=by cases x; cases y; simp
theorem r_SameS (a b:api_Shots) {B:Nat} (h:TF B a.Now) (hB:B≤100000) (h1:a.Since.length≤1000000) (h2:a.Pasts.length≤1000000) (h3:a.Taken.length≤1000000) (h4:∀p,p∈a.Pasts→p.Node.Ents.length≤1000000):Tot (ref10_Same a b) (Tells (a=b)):=by
 unfold ref10_Same
 refine Tot.bind (R:=Tells (¬(a.Now=b.Now)∨a.Tick≠b.Tick∨a.Next≠b.Next∨a.Since.length≠b.Since.length∨a.Pasts.length≠b.Pasts.length∨a.Taken.length≠b.Taken.length)) ?_ fun v hv=>?_
 ·refine Tot.bind (r_SameT h hB) fun x1 hx1=>?_
  rw [bo (b:=a.Tick != b.Tick) (fun _=>rfl),Option.bind_some,bo (b:=a.Next != b.Next) (fun _=>rfl),Option.bind_some,bo (b:=(a.Since.length:Int) != b.Since.length) (fun _=>rfl),Option.bind_some,bo (b:=(a.Pasts.length:Int) != b.Pasts.length) (fun _=>rfl),Option.bind_some,bo (b:=(a.Taken.length:Int) != b.Taken.length) (fun _=>rfl),Option.bind_some]
  have hx:(!x1)=true↔¬a.Now=b.Now:=Tells.not hx1
  refine Tot.ret ?_
  unfold Tells
  simp only [Bool.or_eq_true,hx,bne_iff_ne,ne_eq,or_assoc]
  have e:∀m n:Nat,¬((m:Int)=n)↔¬m=n:=fun m n=>by omega
  rw [e,e,e]
 refine Tot.ite (fun e=>Tot.ret (Tells.no fun hab=>?_)) fun e=>?_
 ·have:=hv.1 e; rw [hab] at this; simp at this
 have hno:=fun h=>e (hv.2 h)
 have n1:a.Now=b.Now:=Classical.byContradiction fun h=>hno (.inl h)
 have n2:a.Tick=b.Tick:=Classical.byContradiction fun h=>hno (.inr (.inl h))
 have n3:a.Next=b.Next:=Classical.byContradiction fun h=>hno (.inr (.inr (.inl h)))
 have n4:a.Since.length=b.Since.length:=Classical.byContradiction fun h=>hno (.inr (.inr (.inr (.inl h))))
 have n5:a.Pasts.length=b.Pasts.length:=Classical.byContradiction fun h=>hno (.inr (.inr (.inr (.inr (.inl h)))))
 have n6:a.Taken.length=b.Taken.length:=Classical.byContradiction fun h=>hno (.inr (.inr (.inr (.inr (.inr h)))))
 unfold ref10N17
 refine Tot.same n4 (fun n x y hn hx hy=>?_) fun he1=>?_
 ·unfold ref10N11
  refine Tot.cond (by simpa using hn) (Tot.bindeq (idx_some hx) (Tot.bindeq (idx_some hy) ?_))
  by_cases h:x=y
  ·rw [if_neg (by simpa using h),chk_pos (by unfold InI64; omega)]
   exact Tot.ret (.inl ⟨h,rfl⟩)
  ·rw [if_pos (by simpa using h)]
   exact ⟨_,rfl,.inr ⟨h,_,rfl,fun hne=>Tells.no fun e=>hne (by rw [e])⟩⟩
 unfold ref10N11
 refine Tot.ncond (by simp) (Tot.done ?_)
 unfold ref10N14 ref10N18
 refine Tot.same n5 (fun n x y hn hx hy=>?_) fun he2=>?_
 ·unfold ref10N12
  refine Tot.cond (by simpa using hn) (Tot.bindeq (idx_some hx) (Tot.bindeq (idx_some hy) (Tot.bind (R:=Tells (¬x=y)) ?_ fun r hr=>?_)))
  ·rw [bo (b:=x.Till != y.Till) (fun _=>rfl),Option.bind_some]
   refine Tot.bind (R:=Tells (¬x=y)) ?_ fun r hr=>Tot.ret hr
   refine Tot.ite (fun e=>Tot.ret (Tells.yes fun h=>?_)) fun e=>Tot.bind (r_SameNode x.Node y.Node (h4 x (List.mem_of_getElem? hx))) fun r hr=>Tot.ret ?_
   ·rw [h] at e; simp at e
   ·refine (Tells.not hr).trans ?_
    rw [past_eq]
    have e1:x.From=y.From:=by by_cases h:x.From=y.From; exact h; exact absurd (by simp [h]) e
    have e2:x.Till=y.Till:=by by_cases h:x.Till=y.Till; exact h; exact absurd (by simp [h]) e
    simp [e1,e2]
  ·by_cases h:x=y
   ·rw [if_neg (fun e=>hr.1 e h),chk_pos (by unfold InI64; omega)]
    exact Tot.ret (.inl ⟨h,rfl⟩)
   ·rw [if_pos (hr.2 h)]
    exact ⟨_,rfl,.inr ⟨h,_,rfl,fun hne=>Tells.no fun e=>hne (by rw [e])⟩⟩
 unfold ref10N12
 refine Tot.ncond (by simp) (Tot.done ?_)
 unfold ref10N15 ref10N19
 refine Tot.same n6 (fun n x y hn hx hy=>?_) fun he3=>?_
 ·unfold ref10N13
  refine Tot.cond (by simpa using hn) (Tot.bindeq (idx_some hx) (Tot.bindeq (idx_some hy) ?_))
  by_cases h:x=y
  ·rw [if_neg (by rw [shot_eq.2 h]; simp),chk_pos (by unfold InI64; omega)]
   exact Tot.ret (.inl ⟨h,rfl⟩)
  ·rw [if_pos (by rw [Bool.not_eq_true',←Bool.not_eq_true,shot_eq]; exact h)]
   exact ⟨_,rfl,.inr ⟨h,_,rfl,fun hne=>Tells.no fun e=>hne (by rw [e])⟩⟩
 unfold ref10N13
 exact Tot.ncond (by simp) ⟨_,rfl,_,rfl,Tells.yes (shots_eq.2 ⟨n1,n2,n3,he1,he2,he3⟩)⟩
end Go.Proofs
