/- The row of ShotQuiet out of its plain program. No condition. -/
import Derived.Test.YthkdflbnmbnbaaaGreatXShotQuietIn
import Derived.Test.YthkdflbnmbnbaaaGreatXShotQuietWk0
import Derived.Test.YthkdflbnmbnbaaaGreatXShotQuietWk1
import Derived.Test.YthkdflbnmbnbaaaGreatXShotQuietWk2
import Derived.Test.YthkdflbnmbnbaaaGreatXShotQuietWk3
import Derived.Test.YthkdflbnmbnbaaaGreatXShotQuietWk4
import Derived.Test.YthkdflbnmbnbaaaGreatXShotQuietWk5
import Derived.Test.YthkdflbnmbnbaaaGreatRows
namespace Go.Proofs.YthkdflbnmbnbaaaGreat
set_option linter.all false
open Go Go.Cat Go.ChangeShapes Go.WideShapes Go.RowKit Go.Proofs
set_option maxRecDepth 100000
local instance:Mono:=⟨False⟩
local instance:Off:=⟨id⟩
theorem shotQuiet_pure (H:∀(p_l:List law10_Act) (p_a:law07_Step),okL_c_law10_Act p_l→ok_law07_Step p_a→law10_ShotQuiet p_l p_a=some true):∀xs,DatL Tryz.prog [22,25] xs→Pure Tryz.prog 8 xs (.v (.bool true)):=by
 intro xs h
 obtain ⟨v0,ys0,e0,d0,h0⟩:=h.cons_inv
 subst e0
 have q0:=d0.one (by kernel_rfl)
 obtain ⟨x0,k0,o0⟩:=datL_c_law10_Act (by kernel_rfl) q0
 have f0:=(List.cons.inj k0).1
 subst f0
 obtain ⟨v1,ys1,e1,d1,h1⟩:=h0.cons_inv
 subst e1
 obtain ⟨cs1,f1,q1⟩:=d1.agg (by kernel_rfl)
 obtain ⟨x1,k1,o1⟩:=dat_law07_Step (by kernel_rfl) q1
 subst f1 k1
 have e:=h1.nil_inv
 subst e
 exact w_law10_ShotQuiet (H x0 x1 o0 o1)
theorem shotQuiet_lifted (h:∀xs,DatL Tryz.prog [22,25] xs→Pure Tryz.prog 8 xs (.v (.bool true))) (os:Os) (started:os.Started) (H:Type) (enc:TypeId×Value→H) :
  ReturnsInHanded {} Tryz.checked os 8 .any (Rows.shotQuietSpec.pre6 enc Tryz.prog Tryz.f8 [] false) (Rows.shotQuietSpec.post enc Tryz.prog Tryz.f8 false true false false) :=
 law_handed (C:=Tryz.checked) (s:=Rows.shotQuietSpec) (tb:=4) (by kernel_rfl) (by kernel_rfl) started (by kernel_rfl) Tryz.func8
   (ChangeSpec.witness6 (enc:=enc) (C:=Tryz.checked) false ⟨#[],#[.slice none 0 0,.agg #[.int .u8 0,.int .u8 0,.int .u8 0,.int .u8 0,.int .u8 0,.slice none 0 0]],[]⟩ 8 (by kernel_rfl) (by kernel_rfl) (by kernel_rfl) (by kernel_rfl))
   rfl (fun ds hds=>match ds,hds with | [_,_],_=>rfl) rfl (by kernel_rfl) (by kernel_rfl) h
theorem shotQuiet_row (h:∀xs,DatL Tryz.prog [22,25] xs→Pure Tryz.prog 8 xs (.v (.bool true))):Rows.ShotQuietSaid :=
 OpenClaim.holds_of_wide 8 Tryz.f8 rfl rfl rfl rfl rfl rfl rfl ⟨rfl,rfl,rfl,rfl,rfl⟩ rfl rfl rfl rfl rfl (by kernel_rfl) Tryz.func8 (by kernel_rfl)
  (of_decide_eq_true (by kernel_rfl)) (by unfold Func.isWrapper; first | (rw [if_pos (by decide +kernel)]; kernel_rfl) | (rw [if_neg (by decide +kernel)]; exact ⟨rfl,rfl⟩))
  (fun os started H enc _=>shotQuiet_lifted h os started H enc)
end Go.Proofs.YthkdflbnmbnbaaaGreat
