/- The row of ShotRight out of its plain program. No condition. -/
import Derived.Test.YthkdflbnmbnbaaaGreatXShotRightIn
import Derived.Test.YthkdflbnmbnbaaaGreatXShotRightWk0
import Derived.Test.YthkdflbnmbnbaaaGreatXShotRightWk1
import Derived.Test.YthkdflbnmbnbaaaGreatXShotRightWk2
import Derived.Test.YthkdflbnmbnbaaaGreatXShotRightWk3
import Derived.Test.YthkdflbnmbnbaaaGreatXShotRightWk4
import Derived.Test.YthkdflbnmbnbaaaGreatXShotRightWk5
import Derived.Test.YthkdflbnmbnbaaaGreatRows
namespace Go.Proofs.YthkdflbnmbnbaaaGreat
set_option linter.all false
open Go Go.Cat Go.ChangeShapes Go.WideShapes Go.RowKit Go.Proofs
set_option maxRecDepth 100000
local instance:Mono:=⟨False⟩
local instance:Off:=⟨id⟩
theorem shotRight_pure (H:∀(p_l:List law10_Act) (p_a:law10_Act),okL_c_law10_Act p_l→ok_law10_Act p_a→law10N6 p_l p_a=some true):∀xs,DatL Tryz.prog [22,27] xs→Pure Tryz.prog 3 xs (.v (.bool true)):=by
 intro xs h
 obtain ⟨v0,ys0,e0,d0,h0⟩:=h.cons_inv
 subst e0
 have q0:=d0.one (by kernel_rfl)
 obtain ⟨x0,k0,o0⟩:=datL_c_law10_Act (by kernel_rfl) q0
 have f0:=(List.cons.inj k0).1
 subst f0
 obtain ⟨v1,ys1,e1,d1,h1⟩:=h0.cons_inv
 subst e1
 obtain ⟨cs1,f1,q1⟩:=d1.agg (by kernel_rfl)
 obtain ⟨x1,k1,o1⟩:=dat_law10_Act (by kernel_rfl) q1
 subst f1 k1
 have e:=h1.nil_inv
 subst e
 exact w_law10N4 (H x0 x1 o0 o1)
theorem shotRight_lifted (h:∀xs,DatL Tryz.prog [22,27] xs→Pure Tryz.prog 3 xs (.v (.bool true))) (os:Os) (started:os.Started) (H:Type) (enc:TypeId×Value→H) :
  ReturnsInHanded {} Tryz.checked os 3 .any (Rows.shotRightSpec.pre6 enc Tryz.prog Tryz.f3 [] false) (Rows.shotRightSpec.post enc Tryz.prog Tryz.f3 false true false false) :=
 law_handed (C:=Tryz.checked) (s:=Rows.shotRightSpec) (tb:=4) (by kernel_rfl) (by kernel_rfl) started (by kernel_rfl) Tryz.func3
   (ChangeSpec.witness6 (enc:=enc) (C:=Tryz.checked) false ⟨#[],#[.slice none 0 0,.agg #[.int .u8 0,.int .u8 0,.int .u8 0,.int .u8 0,.int .u8 0,.int .u8 0,.slice none 0 0,.int .u8 0]],[]⟩ 8 (by kernel_rfl) (by kernel_rfl) (by kernel_rfl) (by kernel_rfl))
   rfl (fun ds hds=>match ds,hds with | [_,_],_=>rfl) rfl (by kernel_rfl) (by kernel_rfl) h
theorem shotRight_row (h:∀xs,DatL Tryz.prog [22,27] xs→Pure Tryz.prog 3 xs (.v (.bool true))):Rows.ShotRightSaid :=
 OpenClaim.holds_of_wide 3 Tryz.f3 rfl rfl rfl rfl rfl rfl rfl ⟨rfl,rfl,rfl,rfl,rfl⟩ rfl rfl rfl rfl rfl (by kernel_rfl) Tryz.func3 (by kernel_rfl)
  (of_decide_eq_true (by kernel_rfl)) (by unfold Func.isWrapper; first | (rw [if_pos (by decide +kernel)]; kernel_rfl) | (rw [if_neg (by decide +kernel)]; exact ⟨rfl,rfl⟩))
  (fun os started H enc _=>shotRight_lifted h os started H enc)
end Go.Proofs.YthkdflbnmbnbaaaGreat
