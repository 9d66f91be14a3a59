/- Shots, plain: right trees are told right by the document, on; snapshots stay. No condition. -/
import Derived.Test.YthkdflbnmbnbaaaGreatXShotRightP10x
namespace Go.Proofs
set_option linter.all false
open Go Go.Cat
set_option linter.all false
section
variable {t:api_Tree}
end
def Keep (s u:api_Shots):Prop:=s.Next≤u.Next∧∀y,y∈u.Taken→s.Next≤y.Id∨(y∈s.Taken∧∀n,Seen u y.At n↔Seen s y.At n)
theorem Keep.refl (s:api_Shots):Keep s s:=⟨Int.le_refl _,fun y hy=>.inr ⟨hy,fun _=>Iff.rfl⟩⟩
theorem Keep.trans {s u v:api_Shots} (h:Keep s u) (h':Keep u v):Keep s v:=⟨Int.le_trans h.1 h'.1,fun y hy=>by
 rcases h'.2 y hy with h1 | ⟨h1,h2⟩
 ·exact .inl (Int.le_trans h.1 h1)
 ·rcases h.2 y h1 with h3 | ⟨h3,h4⟩
  ·exact .inl h3
  ·exact .inr ⟨h3,fun n=>(h2 n).trans (h4 n)⟩⟩
section
variable {k:Nat} {s:api_Shots}
theorem Keep.step (h:SI k s) (hk:k≤200) (hj:SJ s) (a:law10_Act):Keep s (stepS s a).1:=by
 unfold stepS
 split
 ·unfold takeS
  split
  ·exact .refl _
  split
  ·exact .refl _
  split
  ·exact .refl _
  refine ⟨by dsimp only; omega,fun y hy=>?_⟩
  rcases List.mem_append.1 hy with hy | hy
  ·exact .inr ⟨hy,fun _=>Iff.rfl⟩
  ·obtain rfl:=List.mem_singleton.1 hy; exact .inl (Int.le_refl _)
 split
 ·unfold dropS
  split
  ·exact .refl _
  ·exact ⟨Int.le_refl _,fun y hy=>.inr ⟨(List.mem_filter.1 hy).1,fun n=>seen_drop hy n⟩⟩
 ·by_cases hne:s.Now=doneT s.Now a.S
  ·unfold putS; rw [if_pos hne]; exact .refl _
  ·have hp:putS s (doneT s.Now a.S)=⟨doneT s.Now a.S,s.Tick+1,(doneT s.Now a.S).Nodes.map (sinceOf s),s.Pasts++pastsP s (doneT s.Now a.S),s.Taken,s.Next⟩:=by unfold putS; rw [if_neg hne]
   refine ⟨by rw [hp]; exact Int.le_refl _,fun y hy=>.inr ⟨by rw [hp] at hy; exact hy,fun n=>seen_put h (RT.done hj.rt a.S).s hne (by rw [hp] at hy; exact hy) n⟩⟩
end
end Go.Proofs
