/- Shots, plain: names of a tree; right trees are told right by the program. No condition. -/
import Derived.Test.YthkdflbnmbnbaaaGreatXShotRightP10A
namespace Go.Proofs
set_option linter.all false
open Go Go.Cat
set_option linter.all false
def NM (t:api_Tree):Prop:=∀n,n∈t.Nodes→∀e,e∈n.Ents→e.Name∈names6
theorem nmP_mem (n:UInt8):nmP n∈names6:=by
 unfold nmP
 have hk:n.toNat % 6 < names6.length:=Nat.mod_lt _ (by decide)
 rw [List.getElem?_eq_getElem hk]
 exact List.getElem_mem hk
section
variable {t:api_Tree}
theorem NM.g (h:NM t) (i:Int):∀e,e∈(gD t.Nodes i).Ents→e.Name∈names6:=by
 rcases gD_mem t.Nodes i with h1 | h1
 ·exact h _ h1
 ·rw [h1]; intro e he; cases he
theorem NM.put (h:NM t) {n:api_Node} (he:∀e,e∈n.Ents→e.Name∈names6) (x c:Int):NM ⟨putL n t.Nodes,x,c⟩:=fun y hy=>by
 rcases putL_mem' hy with rfl | ⟨hy,-⟩
 ·exact he
 ·exact h y hy
theorem NM.drop (h:NM t) (i:Int):NM ⟨t.Nodes.filter (fun x=>x.Ino != i),t.Next,t.Cookie⟩:=fun y hy=>h y (List.mem_filter.1 hy).1
theorem NM.ent (h:NM t) (i:Int) {s:List UInt8} (hs:s∈names6) (o:Int):NM (entT t i s o):=h.put (fun e he=>by
 rcases insE_mem.1 he with rfl | he
 ·exact hs
 ·exact h.g i e he) _ _
theorem NM.lef (h:NM t) (i:Int) (s:List UInt8):NM (lefT t i s):=h.put (fun e he=>h.g i e (List.mem_filter.1 he).1) _ _
theorem NM.un (h:NM t) (i:Int):NM (unT t i):=by
 unfold unT
 split
 ·exact h.drop i
 ·refine h.put (fun e he=>?_) _ _; exact h.g i e he
theorem NM.done (h:NM t) (s:law07_Step):NM (doneT t s):=by
 unfold doneT
 split
 ·unfold addP; split
  ·exact h
  ·split
   ·exact h
   ·split
    ·exact h
    ·exact NM.ent (h.put (fun e he=>by cases he) _ _) _ (nmP_mem _) _
 split
 ·unfold lnP; split
  ·exact h
  ·split
   ·exact h
   ·split
    ·exact h
    ·refine NM.ent ?_ _ (nmP_mem _) _
     refine h.put (fun e he=>?_) _ _; exact h.g _ e he
 split
 ·unfold unP; split
  ·exact h
  ·split
   ·exact h
   ·exact (h.lef _ _).un _
 split
 ·unfold mvP; split
  ·exact h
  ·split
   ·exact h
   ·split
    ·exact h
    ·split
     ·exact h
     ·split
      ·exact h
      ·split
       ·exact h
       ·split
        ·exact h
        ·refine NM.ent ?_ _ (nmP_mem _) _
         have h1:NM (mvT t (lookP t (nodeP t s.A) (nmP s.N)).1 (nodeP t s.A) (nmP s.N) (nodeP t s.B) (nmP s.M) (mvY t (nodeP t s.B) (nmP s.M))):=by
          unfold mvT; split
          ·exact ((h.lef _ _).lef _ _).un _
          ·exact h.lef _ _
         unfold mvU; split
         ·refine h1.put (fun e he=>?_) _ _; exact h.g _ e he
         ·exact h1
 split
 ·unfold putP; split
  ·exact h
  ·split
   ·exact h
   ·split
    ·exact h
    ·refine h.put (fun e he=>?_) _ _; exact h.g _ e he
 ·unfold freeP; split
  ·exact h
  ·split
   ·exact h
   ·split
    ·exact h
    ·exact h.drop _
end
theorem NM.step {s:api_Shots} (h:NM s.Now) (a:law10_Act):NM (stepS s a).1.Now:=by
 unfold stepS
 split
 ·unfold takeS
  split
  ·exact h
  split
  ·exact h
  split
  ·exact h
  exact h
 split
 ·unfold dropS; split <;> exact h
 ·dsimp only
  unfold putS; split
  ·exact h
  ·exact h.done _
theorem made_NM (l:List law10_Act):NM (madeS l).Now:=by
 have:∀(l:List law10_Act) (s:api_Shots),NM s.Now→NM (l.foldl (fun s a=>(stepS s a).1) s).Now:=by
  intro l
  induction l with
  | nil=>intro s h; exact h
  | cons a l ih=>intro s h; exact ih _ (h.step a)
 exact this l _ fun n hn e he=>by
  obtain rfl:=List.mem_singleton.1 hn; cases he
theorem name1 {x:List UInt8} (hx:x∈names6) (hr:nameR x=true):name_Right x=some true:=by
 have key:∀c:UInt8,c∈([97,98,99,100,101]:List UInt8)→name_Right [c]=some true:=fun c hc=>by
  have hd:decR [c] 0=(c.toNat,1)∧32≤c.toNat∧c.toNat≠47:=by
   simp only [List.mem_cons,List.not_mem_nil,or_false] at hc
   rcases hc with rfl | rfl | rfl | rfl | rfl <;> decide
  have h46:c≠46:=by
   simp only [List.mem_cons,List.not_mem_nil,or_false] at hc
   rcases hc with rfl | rfl | rfl | rfl | rfl <;> decide
  refine Tot.eq ?_
  unfold name_Right
  refine Tot.bindeq (a:=false) ?_ (Tot.ncond (by simp) ?_)
  ·simp [h46]
  ·unfold nameN4
   refine Tot.of ?_
   rw [loop_inl (s':=1)]
   ·refine loop_inr ?_
    unfold nameN1; rfl
   ·unfold nameN1
    rw [if_pos (by simp),hd.1]
    dsimp only
    rw [if_neg (by simp; omega)]
    have:(((c.toNat:Nat):Int) == 47)=false:=by simp; omega
    rw [this]; rfl
 unfold names6 at hx
 simp only [List.mem_cons,List.not_mem_nil,or_false] at hx
 rcases hx with rfl | rfl | rfl | rfl | rfl | rfl
 ·exact key 97 (by simp)
 ·exact key 98 (by simp)
 ·exact key 99 (by simp)
 ·exact key 100 (by simp)
 ·exact key 101 (by simp)
 ·exact absurd hr (by decide)
end Go.Proofs
