/- Shots, plain: what is reached, one after the other. No condition. -/
import Derived.Test.YthkdflbnmbnbaaaGreatXShotRightP10q
namespace Go.Proofs
set_option linter.all false
open Go Go.Cat
set_option linter.all false
theorem mget_set {α:Type} (i n:Int) (v:α):∀l:List (Int×α),mget i (mset n v l)=if i=n then some v else mget i l
 | []=>by
  unfold mset mget
  by_cases h:n=i
  ·rw [if_pos h,if_pos h.symm]
  ·rw [if_neg h,if_neg (Ne.symm h)]; rfl
 | (k,c)::r=>by
  simp only [mset]
  by_cases hk:k=n
  ·rw [if_pos hk]
   simp only [mget]
   by_cases h:k=i
   ·rw [if_pos h,if_pos (by omega)]
   ·rw [if_neg h,if_neg (by omega),if_neg h]
  ·rw [if_neg hk]
   simp only [mget]
   by_cases h:k=i
   ·rw [if_pos h,if_neg (by omega),if_pos h]
   ·rw [if_neg h,mget_set i n v r,if_neg h]
theorem mset_len {α:Type} (n:Int) (v:α):∀l:List (Int×α),(mset n v l).length≤l.length+1
 | []=>Nat.le_refl _
 | (k,c)::r=>by
  simp only [mset]
  split
  ·simp
  ·have:=mset_len n v r; simp only [List.length_cons]; omega
theorem mget_key {α:Type} {i:Int}:∀{l:List (Int×α)},(mget i l).isSome=true↔∃p,p∈l∧p.1=i
 | []=>by simp [mget]
 | (k,c)::r=>by
  simp only [mget]
  by_cases h:k=i
  ·rw [if_pos h]; simp [h]
  ·rw [if_neg h,mget_key]
   constructor
   ·rintro ⟨p,hp,e⟩; exact ⟨p,List.mem_cons_of_mem _ hp,e⟩
   ·rintro ⟨p,hp,e⟩
    rcases List.mem_cons.1 hp with rfl | hp
    ·exact absurd e h
    ·exact ⟨p,hp,e⟩
theorem len_range:∀(n:Nat) (l:List Int),l.Pairwise (·≠·)→(∀x,x∈l→0≤x∧x < n)→l.length≤n
 | 0,l,_,h=>by
  cases l with
  | nil=>exact Nat.le_refl _
  | cons x r=>have:=h x (by simp); omega
 | n+1,l,hp,h=>by
  have h1:=len_range n (l.filter fun x=>x != (n:Int)) (hp.filter _) fun x hx=>by
   obtain ⟨a,b⟩:=List.mem_filter.1 hx
   have:=h x a; simp at b; omega
  have h2:∀l:List Int,l.Pairwise (·≠·)→l.length≤(l.filter fun x=>x != (n:Int)).length+1:=by
   intro l
   induction l with
   | nil=>intro _; exact Nat.zero_le _
   | cons x r ih =>
    intro hp
    obtain ⟨a,b⟩:=List.pairwise_cons.1 hp
    rw [List.filter_cons]
    by_cases e:x=(n:Int)
    ·have:r.filter (fun x=>x != (n:Int))=r:=by
      rw [List.filter_eq_self]; intro y hy; have:=a y hy; simp; omega
     rw [if_neg (by simp [e]),this]; exact Nat.le_refl _
    ·have:=ih b
     rw [if_pos (by simpa using e)]
     simp only [List.length_cons]; omega
  have:=h2 l hp; omega
inductive Rch (g:Int→Option api_Node) (i:Int):Int→Prop
 | refl:Rch g i i
 | step {j:Int} {n:api_Node} {e:api_Ent}:Rch g i j→g j=some n→e∈n.Ents→Rch g i e.Ino
theorem Rch.trans {g:Int→Option api_Node} {i j k:Int} (h:Rch g i j) (h':Rch g j k):Rch g i k:=by
 induction h' with
 | refl=>exact h
 | step _ h2 h3 ih=>exact .step ih h2 h3
abbrev Met:=List (Int×struct_struct)
abbrev AllM:=List (Int×api_Node)
def isM (m:Met) (j:Int):Prop:=(mget j m).isSome=true
theorem isM_set (m:Met) (n j:Int) (v:struct_struct):isM (mset n v m) j↔j=n∨isM m j:=by
 unfold isM; rw [mget_set]
 by_cases h:j=n
 ·simp [h]
 ·simp [h]
structure Tr (g:Int→Option api_Node) (A:Int→Prop) (m:Met) (o:List api_Node) (m':Met) (o':List api_Node) (w:Bool):Prop where
 mo:∀j,isM m j→isM m' j
 new:∃N:List api_Node,o'=o++N∧(∀n,n∈N→g n.Ino=some n∧¬isM m n.Ino∧isM m' n.Ino)∧N.Pairwise (fun a b=>a.Ino≠b.Ino)∧∀j,isM m' j→¬isM m j→∀n,g j=some n→n∈N
 rc:∀j,isM m' j→¬isM m j→∃r,A r∧Rch g r j
 cl:∀j,isM m' j→¬isM m j→∀n,g j=some n→∀e,e∈n.Ents→isM m' e.Ino
 wh:w=true↔∀j,isM m' j→¬isM m j→(g j).isSome=true
section
variable {g:Int→Option api_Node} {A:Int→Prop} {m m1 m2:Met} {o o1 o2:List api_Node} {w w1 w2:Bool}
theorem Tr.refl:Tr g A m o m o true :=
 ⟨fun _ h=>h,⟨[],by simp,fun n hn=>(by cases hn),List.Pairwise.nil,fun j h h'=>absurd h h'⟩,fun j h h'=>absurd h h',fun j h h'=>absurd h h',⟨fun _ j h h'=>absurd h h',fun _=>rfl⟩⟩
theorem Tr.trans (hg:∀j n,g j=some n→n.Ino=j) (h:Tr g A m o m1 o1 w1) (h':Tr g A m1 o1 m2 o2 w2):Tr g A m o m2 o2 (w2&&w1):=by
 obtain ⟨N,hN,hN1,hN2,hN3⟩:=h.new
 obtain ⟨M,hM,hM1,hM2,hM3⟩:=h'.new
 refine ⟨fun j hj=>h'.mo j (h.mo j hj),⟨N++M,by rw [hM,hN,List.append_assoc],fun n hn=>?_,?_,fun j hj hj' n hn=>?_⟩,fun j hj hj'=>?_,fun j hj hj' n hn e he=>?_,?_⟩
 ·rcases List.mem_append.1 hn with hn | hn
  ·obtain ⟨a,b,c⟩:=hN1 n hn; exact ⟨a,b,h'.mo _ c⟩
  ·obtain ⟨a,b,c⟩:=hM1 n hn; exact ⟨a,fun hm=>b (h.mo _ hm),c⟩
 ·refine List.pairwise_append.2 ⟨hN2,hM2,fun a ha b hb=>fun e=>?_⟩
  exact (hM1 b hb).2.1 (e▸(hN1 a ha).2.2)
 ·by_cases h1:isM m1 j
  ·exact List.mem_append_left _ (hN3 j h1 hj' n hn)
  ·exact List.mem_append_right _ (hM3 j hj h1 n hn)
 ·by_cases h1:isM m1 j
  ·exact h.rc j h1 hj'
  ·exact h'.rc j hj h1
 ·by_cases h1:isM m1 j
  ·exact h'.mo _ (h.cl j h1 hj' n hn e he)
  ·exact h'.cl j hj h1 n hn e he
 ·rw [Bool.and_eq_true,h'.wh,h.wh]
  constructor
  ·rintro ⟨a,b⟩ j hj hj'
   by_cases h1:isM m1 j
   ·exact b j h1 hj'
   ·exact a j hj h1
  ·intro a
   exact ⟨fun j hj hj'=>a j hj fun h1=>hj' (h.mo j h1),fun j hj hj'=>a j (h'.mo j hj) hj'⟩
theorem Tr.sub {A':Int→Prop} (h:Tr g A m o m1 o1 w) (hA:∀r,A r→∃r',A' r'∧Rch g r' r):Tr g A' m o m1 o1 w :=
 ⟨h.mo,h.new,fun j hj hj'=>by
  obtain ⟨r,hr,h1⟩:=h.rc j hj hj'
  obtain ⟨r',hr',h2⟩:=hA r hr
  exact ⟨r',hr',h2.trans h1⟩,h.cl,h.wh⟩
theorem Tr.none {i:Int} {v:struct_struct} (hi:¬isM m i) (hg:g i=none):Tr g (·=i) m o (mset i v m) o false:=by
 have hn:∀j,isM (mset i v m) j→¬isM m j→j=i:=fun j hj hj'=>((isM_set _ _ _ _).1 hj).resolve_right hj'
 refine ⟨fun j hj=>(isM_set _ _ _ _).2 (.inr hj),⟨[],by simp,fun n hn=>(by cases hn),List.Pairwise.nil,fun j hj hj' n hgj=>?_⟩,fun j hj hj'=>⟨i,rfl,by rw [hn j hj hj']; exact .refl⟩,fun j hj hj' n hgj=>?_,⟨fun h=>(by cases h),fun h=>?_⟩⟩
 ·rw [hn j hj hj',hg] at hgj; cases hgj
 ·rw [hn j hj hj',hg] at hgj; cases hgj
 ·have:=h i ((isM_set _ _ _ _).2 (.inl rfl)) hi
  rw [hg] at this; cases this
theorem Tr.one (hgi:∀j n,g j=some n→n.Ino=j) {i:Int} {v:struct_struct} {n:api_Node} (hi:¬isM m i) (hn:g i=some n) (h:Tr g (fun r=>∃e,e∈n.Ents∧e.Ino=r) (mset i v m) (o++[n]) m1 o1 w) (hch:∀e,e∈n.Ents→isM m1 e.Ino):Tr g (·=i) m o m1 o1 w:=by
 obtain ⟨N,hN,hN1,hN2,hN3⟩:=h.new
 have hni:=hgi i n hn
 have hi1:isM (mset i v m) i:=(isM_set _ _ _ _).2 (.inl rfl)
 have hm:∀{j},¬isM m j→j≠i→¬isM (mset i v m) j:=fun hj hji hm=>((isM_set _ _ _ _).1 hm).elim hji hj
 refine ⟨fun j hj=>h.mo j ((isM_set _ _ _ _).2 (.inr hj)),⟨n::N,by rw [hN,List.append_assoc]; rfl,fun x hx=>?_,?_,fun j hj hj' x hx=>?_⟩,fun j hj hj'=>?_,fun j hj hj' x hx e he=>?_,?_⟩
 ·rcases List.mem_cons.1 hx with rfl | hx
  ·rw [hni]; exact ⟨hn,hi,h.mo _ hi1⟩
  ·obtain ⟨a,b,c⟩:=hN1 x hx
   exact ⟨a,fun hm=>b ((isM_set _ _ _ _).2 (.inr hm)),c⟩
 ·refine List.pairwise_cons.2 ⟨fun x hx e=>?_,hN2⟩
  exact (hN1 x hx).2.1 (by rw [←e,hni]; exact hi1)
 ·by_cases e:j=i
  ·rw [e,hn] at hx; cases hx; simp
  ·exact List.mem_cons_of_mem _ (hN3 j hj (hm hj' e) x hx)
 ·by_cases e:j=i
  ·exact ⟨i,rfl,by rw [e]; exact .refl⟩
  ·obtain ⟨r,⟨e',he',rfl⟩,h2⟩:=h.rc j hj (hm hj' e)
   exact ⟨i,rfl,(Rch.step .refl hn he').trans h2⟩
 ·by_cases e1:j=i
  ·rw [e1,hn] at hx; cases hx; exact hch e he
  ·exact h.cl j hj (hm hj' e1) x hx e he
 ·rw [h.wh]
  constructor
  ·intro a j hj hj'
   by_cases e:j=i
   ·rw [e,hn]; rfl
   ·exact a j hj (hm hj' e)
  ·intro a j hj hj'
   exact a j hj fun h1=>hj' ((isM_set _ _ _ _).2 (.inr h1))
end
end Go.Proofs
