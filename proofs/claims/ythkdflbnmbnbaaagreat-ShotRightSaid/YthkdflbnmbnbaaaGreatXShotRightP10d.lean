/- Shots, plain: how the nodes of a tree stand. No condition. -/
import Derived.Test.YthkdflbnmbnbaaaGreatXShotRightP10c
namespace Go.Proofs
set_option linter.all false
open Go Go.Cat
set_option linter.all false
def SrtN (l:List api_Node):Prop:=l.Pairwise (fun a b=>a.Ino < b.Ino)
theorem putL_srt {n:api_Node}:∀{l:List api_Node},SrtN l→SrtN (putL n l)
 | [],_=>List.pairwise_singleton _ _
 | x::r,h=>by
  obtain ⟨h1,h2⟩:=List.pairwise_cons.1 h
  rw [putL_cons]
  split
  ·next hge =>
   refine List.pairwise_cons.2 ⟨fun y hy=>?_,h.filter _⟩
   obtain ⟨hy,hne⟩:=List.mem_filter.1 hy
   have hne:y.Ino≠n.Ino:=by simpa using hne
   rcases List.mem_cons.1 hy with rfl | hy
   ·omega
   ·have:=h1 y hy; omega
  ·next hlt =>
   refine List.pairwise_cons.2 ⟨fun y hy=>?_,putL_srt h2⟩
   rcases putL_mem' hy with rfl | ⟨hy,-⟩
   ·omega
   ·exact h1 y hy
theorem filter_srt {l:List api_Node} (h:SrtN l) (p:api_Node→Bool):SrtN (l.filter p):=List.Pairwise.filter p h
theorem gN_cons (x:api_Node) (l:List api_Node) (i:Int):gN (x::l) i=if x.Ino=i then some x else gN l i:=by
 unfold gN
 rw [List.find?_cons]
 by_cases h:x.Ino=i
 ·rw [if_pos h]; simp [h]
 ·rw [if_neg h]
  have:(x.Ino == i)=false:=by simpa using h
  rw [this]
theorem gN_drop (l:List api_Node) (j i:Int):gN (l.filter (fun x=>x.Ino != j)) i=if i=j then none else gN l i:=by
 induction l with
 | nil=>simp [gN]
 | cons x l ih =>
  rw [List.filter_cons,gN_cons]
  by_cases h:x.Ino=j
  ·have e:(x.Ino != j)=false:=by simpa using h
   rw [e,if_neg (by simp),ih]
   by_cases hi:i=j
   ·rw [if_pos hi,if_pos hi]
   ·rw [if_neg hi,if_neg hi,if_neg (by omega)]
  ·have e:(x.Ino != j)=true:=by simpa using h
   rw [e,if_pos rfl,gN_cons,ih]
   by_cases hi:i=j
   ·rw [if_pos hi,if_pos hi,if_neg (by omega)]
   ·rw [if_neg hi,if_neg hi]
theorem gN_put (n:api_Node) (i:Int):∀l,gN (putL n l) i=if i=n.Ino then some n else gN l i
 | []=>by
  unfold putL; rw [gN_cons]
  by_cases h:i=n.Ino
  ·rw [if_pos h,if_pos h.symm]
  ·rw [if_neg h,if_neg (Ne.symm h)]
 | x::r=>by
  rw [putL_cons]
  by_cases h:i=n.Ino
  ·rw [if_pos h]
   split
   ·rw [gN_cons,if_pos h.symm]
   ·rw [gN_cons,if_neg (by omega),gN_put n i r,if_pos h]
  ·rw [if_neg h]
   split
   ·rw [gN_cons,if_neg (Ne.symm h),gN_drop,if_neg h]
   ·rw [gN_cons,gN_put n i r,if_neg h,gN_cons]
theorem srt_uniq {l:List api_Node} (h:SrtN l) {a b:api_Node} (ha:a∈l) (hb:b∈l) (e:a.Ino=b.Ino):a=b:=by
 induction l with
 | nil=>cases ha
 | cons x l ih =>
  obtain ⟨h1,h2⟩:=List.pairwise_cons.1 h
  rcases List.mem_cons.1 ha with ha | ha <;> rcases List.mem_cons.1 hb with hb | hb
  ·rw [ha,hb]
  ·have:=h1 b hb; rw [←ha] at this; omega
  ·have:=h1 a ha; rw [←hb] at this; omega
  ·exact ih h2 ha hb
theorem gN_mem {l:List api_Node} (h:SrtN l) {n:api_Node} (hn:n∈l):gN l n.Ino=some n:=by
 cases e:gN l n.Ino with
 | none=>exact absurd rfl (gN_none.1 e n hn)
 | some m=>have:=gN_some e; rw [srt_uniq h this.1 hn this.2]
structure TS (t:api_Tree):Prop where
 s:SrtN t.Nodes
 lo:∀n,n∈t.Nodes→0≤n.Ino∧n.Ino < t.Next
 rt:∃n,gN t.Nodes 1=some n∧n.Kind=2
 en:∀n,n∈t.Nodes→∀e,e∈n.Ents→e.Ino≠1
section
variable {t:api_Tree}
theorem TS.nx (h:TS t):1 < t.Next:=by
 obtain ⟨n,hn,-⟩:=h.rt
 have:=gN_some hn
 have h1:=h.lo n this.1
 omega
theorem TS.g (h:TS t) (i:Int):(0≤(gD t.Nodes i).Ino∧(gD t.Nodes i).Ino < t.Next)∧((gD t.Nodes i).Ino=1→(gD t.Nodes i).Kind=2)∧∀e,e∈(gD t.Nodes i).Ents→e.Ino≠1:=by
 have hx:=h.nx
 rcases gD_mem t.Nodes i with h1 | h1
 ·refine ⟨h.lo _ h1,fun e=>?_,h.en _ h1⟩
  obtain ⟨n,hn,hk⟩:=h.rt
  have:=gN_some hn
  rw [←srt_uniq h.s this.1 h1 (by rw [this.2,e])]; exact hk
 ·rw [h1]; exact ⟨⟨Int.le_refl _,by show (0:Int) < _; omega⟩,fun e=>absurd e (by show (0:Int)≠1; omega),fun e he=>by cases he⟩
theorem TS.put (h:TS t) {n:api_Node} {x c:Int} (hn:0≤n.Ino∧n.Ino < x) (hx:t.Next≤x) (hk:n.Ino=1→n.Kind=2) (he:∀e,e∈n.Ents→e.Ino≠1):TS ⟨putL n t.Nodes,x,c⟩:=by
 refine ⟨putL_srt h.s,fun y hy=>?_,?_,fun y hy=>?_⟩
 ·rcases putL_mem' hy with rfl | ⟨hy,-⟩
  ·exact hn
  ·have:=h.lo y hy; dsimp only; omega
 ·obtain ⟨r,hr,hkr⟩:=h.rt
  dsimp only
  rw [gN_put]
  by_cases e:1=n.Ino
  ·exact ⟨n,if_pos e,hk e.symm⟩
  ·exact ⟨r,by rw [if_neg e,hr],hkr⟩
 ·rcases putL_mem' hy with rfl | ⟨hy,-⟩
  ·exact he
  ·exact h.en y hy
theorem TS.drop (h:TS t) {i:Int} (hi:i≠1):TS ⟨t.Nodes.filter (fun x=>x.Ino != i),t.Next,t.Cookie⟩:=by
 refine ⟨filter_srt h.s _,fun y hy=>h.lo _ (List.mem_filter.1 hy).1,?_,fun y hy=>h.en _ (List.mem_filter.1 hy).1⟩
 obtain ⟨r,hr,hkr⟩:=h.rt
 exact ⟨r,by dsimp only; rw [gN_drop,if_neg (Ne.symm hi),hr],hkr⟩
theorem insE_mem {e x:api_Ent}:∀{l:List api_Ent},x∈insE e l↔x=e∨x∈l
 | []=>by simp [insE]
 | y::r=>by
  rw [insE_cons]
  split
  ·simp
  ·rw [List.mem_cons,insE_mem,List.mem_cons]
   constructor
   ·rintro (h | h | h)
    ·exact .inr (.inl h)
    ·exact .inl h
    ·exact .inr (.inr h)
   ·rintro (h | h | h)
    ·exact .inr (.inl h)
    ·exact .inl h
    ·exact .inr (.inr h)
theorem TS.ent (h:TS t) (i:Int) (s:List UInt8) {o:Int} (ho:o≠1):TS (entT t i s o):=by
 obtain ⟨h1,h2,h3⟩:=h.g i
 refine h.put h1 (Int.le_refl _) h2 fun e he=>?_
 rcases insE_mem.1 he with rfl | he
 ·exact ho
 ·exact h3 e he
theorem TS.lef (h:TS t) (i:Int) (s:List UInt8):TS (lefT t i s):=by
 obtain ⟨h1,h2,h3⟩:=h.g i
 exact h.put h1 (Int.le_refl _) h2 fun e he=>h3 e (List.mem_filter.1 he).1
theorem TS.un (h:TS t) {i:Int} (hi:i≠1):TS (unT t i):=by
 obtain ⟨h1,h2,h3⟩:=h.g i
 unfold unT
 split
 ·exact h.drop hi
 ·exact h.put h1 (Int.le_refl _) h2 h3
theorem look_ne (h:TS t) (i:Int) (s:List UInt8) (h0:(lookP t i s).2=0):(lookP t i s).1≠1:=by
 have h3:=(h.g i).2.2
 unfold lookP at *
 split
 ·next hc=>rw [if_pos hc] at h0; exact absurd h0 (by simpa using hc)
 ·next hc =>
  rw [if_neg hc] at h0
  split
  ·next hc'=>rw [if_pos hc'] at h0; cases h0
  ·next hc' =>
   rw [if_neg hc'] at h0
   split
   ·next e he =>
    have:=List.mem_of_find?_eq_some he
    unfold dirP at this
    split at this
    ·split at this
     ·cases this
     ·exact h3 e this
    ·cases this
   ·next he=>rw [he] at h0; cases h0
theorem mvY_ne (h:TS t) (to:Int) (asn:List UInt8):mvY t to asn≠1:=by
 have h3:=(h.g to).2.2
 unfold mvY
 split
 ·next e he =>
  have:=List.mem_of_find?_eq_some he
  unfold dirP at this
  split at this
  ·split at this
   ·cases this
   ·exact h3 e this
  ·cases this
 ·omega
theorem TS.mvT (h:TS t) (i from_:Int) (s:List UInt8) (to:Int) (asn:List UInt8) {y:Int} (hy:y≠1):TS (mvT t i from_ s to asn y)∧(mvT t i from_ s to asn y).Next=t.Next:=by
 unfold Go.Proofs.mvT
 split
 ·refine ⟨((h.lef from_ s).lef to asn).un hy,?_⟩
  unfold unT; split <;> rfl
 ·exact ⟨h.lef from_ s,rfl⟩
theorem TS.mvU {u:api_Tree} (h:TS t) (hu:TS u) (hx:u.Next=t.Next) (i to:Int):TS (mvU t u i to):=by
 obtain ⟨h1,h2,h3⟩:=h.g i
 unfold Go.Proofs.mvU
 split
 ·exact hu.put (by dsimp only; omega) (Int.le_refl _) h2 h3
 ·exact hu
theorem bne_zero {x:Int} (h:¬(x != 0)=true):x=0:=by simpa using h
theorem TS.done (h : TS t) (s : law07_Step) : TS (doneT t s) := by
  have hx := h.nx
  unfold doneT
  split
  · unfold addP; split
    · exact h
    · split
      · exact h
      · split
        · exact h
        · exact (h.put (n := ⟨t.Next, _, 1, [], [], _⟩) (by dsimp only; omega) (by omega) (fun e => by dsimp only at e; omega) (fun e he => by cases he)).ent _ _ (by omega)
  split
  · unfold lnP; split
    · exact h
    · next hp =>
      split
      · exact h
      · next hk =>
        split
        · exact h
        · obtain ⟨h1, h2, h3⟩ := h.g (nodeP t s.B)
          refine TS.ent (h.put (n := ⟨(gD t.Nodes (nodeP t s.B)).Ino, (gD t.Nodes (nodeP t s.B)).Kind, (gD t.Nodes (nodeP t s.B)).Links + 1, (gD t.Nodes (nodeP t s.B)).Data, (gD t.Nodes (nodeP t s.B)).Ents, (gD t.Nodes (nodeP t s.B)).Up⟩) h1 (Int.le_refl _) h2 h3) _ _ ?_
          intro e
          rw [e] at h2 hk
          obtain ⟨r, hr, hkr⟩ := h.rt
          unfold gD at hk; rw [hr] at hk
          exact hk (by simpa using hkr)
  split
  · unfold unP; split
    · exact h
    · next hz => split
                 · exact h
                 · exact (h.lef _ _).un (look_ne h _ _ (bne_zero hz))
  split
  · unfold mvP; split
    · exact h
    · next hz =>
      split
      · exact h
      · split
        · exact h
        · split
          · exact h
          · split
            · exact h
            · split
              · exact h
              · split
                · exact h
                · have hm := h.mvT (lookP t (nodeP t s.A) (nmP s.N)).1 (nodeP t s.A) (nmP s.N) (nodeP t s.B) (nmP s.M) (mvY_ne h (nodeP t s.B) (nmP s.M))
                  exact (TS.mvU h hm.1 hm.2 _ _).ent _ _ (look_ne h _ _ (bne_zero hz))
  split
  · unfold putP; split
    · exact h
    · split
      · exact h
      · split
        · exact h
        · obtain ⟨h1, h2, h3⟩ := h.g (nodeP t s.A)
          exact h.put h1 (Int.le_refl _) h2 h3
  · unfold freeP; split
    · exact h
    · split
      · exact h
      · next hk =>
        split
        · exact h
        · refine h.drop fun e => ?_
          rw [e] at hk
          obtain ⟨r, hr, hkr⟩ := h.rt
          unfold gD at hk; rw [hr] at hk
          exact hk (by simpa using hkr)
end
end Go.Proofs
