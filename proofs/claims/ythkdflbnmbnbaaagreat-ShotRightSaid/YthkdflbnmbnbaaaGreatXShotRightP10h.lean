/- Shots, plain: the questions whose answers are fixed. No condition. -/
import Derived.Test.YthkdflbnmbnbaaaGreatXShotRightTw
import Derived.Test.YthkdflbnmbnbaaaGreatXShotRightCatP5
import Derived.Test.YthkdflbnmbnbaaaGreatXShotRightCatP1
import Derived.IntWalk
namespace Go.Proofs
set_option linter.all false
open Go Go.Cat
set_option linter.all false
def cmpI (x y:Int):Int:=if x < y then -1 else if x > y then 1 else 0
theorem t_cmpI (x y:Int):cmpN1 x y=some (cmpI x y):=by
 unfold cmpN1 cmpN7 cmpI
 simp only [Option.bind_some]
 by_cases h1:x < y <;> by_cases h2:x > y <;> simp [h1,h2]
theorem cmpI_lt {x y:Int}:cmpI x y < 0↔x < y:=by unfold cmpI; split <;> (try split) <;> omega
theorem had_cmp:CmpIs shot_had_2 (fun a b=>cmpI a.Ino b.Ino):=by
 refine ⟨fun x y=>by unfold shot_had_2; rw [t_cmpI]; rfl,⟨fun x=>?_,fun x y z h1 h2=>?_,fun x y z h1 h2=>?_⟩⟩
 ·simp [cmpI_lt]
 ·simp only [decide_eq_true_eq,cmpI_lt] at *; omega
 ·simp only [decide_eq_false_iff_not,cmpI_lt] at *; omega
instance : CmpOk shot_had_2 := ⟨_, had_cmp⟩
theorem p_head10:law10_head=some true:=le_law10N1 300 _ (by kernel_rfl)
end Go.Proofs
