/- The row of ShotApart out of its plain program. No condition. -/
import Derived.Test.YthkdflbnmbnbaaaGreatXShotApartIn
import Derived.Test.YthkdflbnmbnbaaaGreatXShotApartWk0
import Derived.Test.YthkdflbnmbnbaaaGreatXShotApartWk1
import Derived.Test.YthkdflbnmbnbaaaGreatXShotApartWk2
import Derived.Test.YthkdflbnmbnbaaaGreatXShotApartWk3
import Derived.Test.YthkdflbnmbnbaaaGreatXShotApartWk4
import Derived.Test.YthkdflbnmbnbaaaGreatXShotApartWk5
import Derived.Test.YthkdflbnmbnbaaaGreatRows
namespace Go.Proofs.YthkdflbnmbnbaaaGreat
set_option linter.all false
open Go Go.Cat Go.ChangeShapes Go.WideShapes Go.RowKit Go.Proofs
set_option maxRecDepth 100000
local instance:Mono:=⟨False⟩
local instance:Off:=⟨id⟩
theorem shotApart_pure (H:∀(p_l:List law10_Act) (p_at:List UInt8),okL_c_law10_Act p_l→okA_ok_u8_2 p_at→law10_ShotApart p_l p_at=some true):∀xs,DatL Tryz.prog [22,63] xs→Pure Tryz.prog 7 xs (.v (.bool true)):=by
 intro xs h
 obtain ⟨v0,ys0,e0,d0,h0⟩:=h.cons_inv
 subst e0
 have q0:=d0.one (by kernel_rfl)
 obtain ⟨x0,k0,o0⟩:=datL_c_law10_Act (by kernel_rfl) q0
 have f0:=(List.cons.inj k0).1
 subst f0
 obtain ⟨v1,ys1,e1,d1,h1⟩:=h0.cons_inv
 subst e1
 obtain ⟨cs1,f1,q1⟩:=d1.agg (by kernel_rfl)
 obtain ⟨x1,k1,o1⟩:=datA_okA_ok_u8_2 (by kernel_rfl) q1
 subst f1 k1
 have e:=h1.nil_inv
 subst e
 exact w_law10_ShotApart (H x0 x1 o0 o1)
theorem shotApart_lifted (h:∀xs,DatL Tryz.prog [22,63] xs→Pure Tryz.prog 7 xs (.v (.bool true))) (os:Os) (started:os.Started) (H:Type) (enc:TypeId×Value→H) :
  ReturnsInHanded {} Tryz.checked os 7 .any (Rows.shotApartSpec.pre6 enc Tryz.prog Tryz.f7 [] false) (Rows.shotApartSpec.post enc Tryz.prog Tryz.f7 false true false false) :=
 law_handed (C:=Tryz.checked) (s:=Rows.shotApartSpec) (tb:=4) (by kernel_rfl) (by kernel_rfl) started (by kernel_rfl) Tryz.func7
   (ChangeSpec.witness6 (enc:=enc) (C:=Tryz.checked) false ⟨#[],#[.slice none 0 0,.agg #[.int .u8 0,.int .u8 0]],[]⟩ 8 (by kernel_rfl) (by kernel_rfl) (by kernel_rfl) (by kernel_rfl))
   rfl (fun ds hds=>match ds,hds with | [_,_],_=>rfl) rfl (by kernel_rfl) (by kernel_rfl) h
theorem shotApart_row (h:∀xs,DatL Tryz.prog [22,63] xs→Pure Tryz.prog 7 xs (.v (.bool true))):Rows.ShotApartSaid :=
 OpenClaim.holds_of_wide 7 Tryz.f7 rfl rfl rfl rfl rfl rfl rfl ⟨rfl,rfl,rfl,rfl,rfl⟩ rfl rfl rfl rfl rfl (by kernel_rfl) Tryz.func7 (by kernel_rfl)
  (of_decide_eq_true (by kernel_rfl)) (by unfold Func.isWrapper; first | (rw [if_pos (by decide +kernel)]; kernel_rfl) | (rw [if_neg (by decide +kernel)]; exact ⟨rfl,rfl⟩))
  (fun os started H enc _=>shotApart_lifted h os started H enc)
end Go.Proofs.YthkdflbnmbnbaaaGreat
