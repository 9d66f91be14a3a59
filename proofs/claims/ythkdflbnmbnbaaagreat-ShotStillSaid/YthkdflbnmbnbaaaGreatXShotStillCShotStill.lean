/- The row of ShotStill out of its plain program. No condition. -/
import Derived.Test.YthkdflbnmbnbaaaGreatXShotStillIn
import Derived.Test.YthkdflbnmbnbaaaGreatXShotStillWk0
import Derived.Test.YthkdflbnmbnbaaaGreatXShotStillWk1
import Derived.Test.YthkdflbnmbnbaaaGreatXShotStillWk2
import Derived.Test.YthkdflbnmbnbaaaGreatXShotStillWk3
import Derived.Test.YthkdflbnmbnbaaaGreatXShotStillWk4
import Derived.Test.YthkdflbnmbnbaaaGreatXShotStillWk5
import Derived.Test.YthkdflbnmbnbaaaGreatRows
namespace Go.Proofs.YthkdflbnmbnbaaaGreat
set_option linter.all false
open Go Go.Cat Go.ChangeShapes Go.WideShapes Go.RowKit Go.Proofs
set_option maxRecDepth 100000
local instance:Mono:=⟨False⟩
local instance:Off:=⟨id⟩
theorem shotStill_pure (H:∀(p_l:List law10_Act) (p_more:List law10_Act),okL_c_law10_Act p_l→okL_c_law10_Act p_more→law10N6 p_l p_more=some true):∀xs,DatL Tryz.prog [22,22] xs→Pure Tryz.prog 4 xs (.v (.bool true)):=by
 intro xs h
 obtain ⟨v0,ys0,e0,d0,h0⟩:=h.cons_inv
 subst e0
 have q0:=d0.one (by kernel_rfl)
 obtain ⟨x0,k0,o0⟩:=datL_c_law10_Act (by kernel_rfl) q0
 have f0:=(List.cons.inj k0).1
 subst f0
 obtain ⟨v1,ys1,e1,d1,h1⟩:=h0.cons_inv
 subst e1
 have q1:=d1.one (by kernel_rfl)
 obtain ⟨x1,k1,o1⟩:=datL_c_law10_Act (by kernel_rfl) q1
 have f1:=(List.cons.inj k1).1
 subst f1
 have e:=h1.nil_inv
 subst e
 exact w_law10N4 (H x0 x1 o0 o1)
theorem shotStill_lifted (h:∀xs,DatL Tryz.prog [22,22] xs→Pure Tryz.prog 4 xs (.v (.bool true))) (os:Os) (started:os.Started) (H:Type) (enc:TypeId×Value→H) :
  ReturnsInHanded {} Tryz.checked os 4 .any (Rows.shotStillSpec.pre6 enc Tryz.prog Tryz.f4 [] false) (Rows.shotStillSpec.post enc Tryz.prog Tryz.f4 false true false false) :=
 law_handed (C:=Tryz.checked) (s:=Rows.shotStillSpec) (tb:=4) (by kernel_rfl) (by kernel_rfl) started (by kernel_rfl) Tryz.func4
   (ChangeSpec.witness6 (enc:=enc) (C:=Tryz.checked) false ⟨#[],#[.slice none 0 0,.slice none 0 0],[]⟩ 8 (by kernel_rfl) (by kernel_rfl) (by kernel_rfl) (by kernel_rfl))
   rfl (fun ds hds=>match ds,hds with | [_,_],_=>rfl) rfl (by kernel_rfl) (by kernel_rfl) h
theorem shotStill_row (h:∀xs,DatL Tryz.prog [22,22] xs→Pure Tryz.prog 4 xs (.v (.bool true))):Rows.ShotStillSaid :=
 OpenClaim.holds_of_wide 4 Tryz.f4 rfl rfl rfl rfl rfl rfl rfl ⟨rfl,rfl,rfl,rfl,rfl⟩ rfl rfl rfl rfl rfl (by kernel_rfl) Tryz.func4 (by kernel_rfl)
  (of_decide_eq_true (by kernel_rfl)) (by unfold Func.isWrapper; first | (rw [if_pos (by decide +kernel)]; kernel_rfl) | (rw [if_neg (by decide +kernel)]; exact ⟨rfl,rfl⟩))
  (fun os started H enc _=>shotStill_lifted h os started H enc)
end Go.Proofs.YthkdflbnmbnbaaaGreat
