/- The row of ChainOne out of its plain program. No condition. -/
import Derived.Test.YtaaaipgdnofafaaGreatXChainOneIn
import Derived.Test.YtaaaipgdnofafaaGreatXChainOneWk0
import Derived.Test.YtaaaipgdnofafaaGreatXChainOneWk1
import Derived.Test.YtaaaipgdnofafaaGreatXChainOneWk2
import Derived.Test.YtaaaipgdnofafaaGreatXChainOneWk3
import Derived.Test.YtaaaipgdnofafaaGreatXChainOneWk4
import Derived.Test.YtaaaipgdnofafaaGreatRows
namespace Go.Proofs.YtaaaipgdnofafaaGreat
set_option linter.all false
open Go Go.Cat Go.ChangeShapes Go.WideShapes Go.RowKit Go.Proofs
set_option maxRecDepth 100000
local instance:Mono:=⟨False⟩
local instance:Off:=⟨id⟩
theorem chainOne_pure (H:∀(p_length:UInt8) (p_l:List law26_Act) (p_which1:UInt8),ok_u8 p_length→okL_c_law26_Act p_l→ok_u8 p_which1→law26_ChainOne p_length p_l p_which1=some true):∀xs,DatL Tryz.prog [5,44,5] xs→Pure Tryz.prog 6 xs (.v (.bool true)):=by
 intro xs h
 obtain ⟨v0,ys0,e0,d0,h0⟩:=h.cons_inv
 subst e0
 have q0:=d0.one (by kernel_rfl)
 obtain ⟨x0,k0,o0⟩:=dat_u8 (by kernel_rfl) q0
 have f0:=(List.cons.inj k0).1
 subst f0
 obtain ⟨v1,ys1,e1,d1,h1⟩:=h0.cons_inv
 subst e1
 have q1:=d1.one (by kernel_rfl)
 obtain ⟨x1,k1,o1⟩:=datL_c_law26_Act (by kernel_rfl) q1
 have f1:=(List.cons.inj k1).1
 subst f1
 obtain ⟨v2,ys2,e2,d2,h2⟩:=h1.cons_inv
 subst e2
 have q2:=d2.one (by kernel_rfl)
 obtain ⟨x2,k2,o2⟩:=dat_u8 (by kernel_rfl) q2
 have f2:=(List.cons.inj k2).1
 subst f2
 have e:=h2.nil_inv
 subst e
 exact w_law26_ChainOne (H x0 x1 x2 o0 o1 o2)
theorem chainOne_lifted (h:∀xs,DatL Tryz.prog [5,44,5] xs→Pure Tryz.prog 6 xs (.v (.bool true))) (os:Os) (started:os.Started) (H:Type) (enc:TypeId×Value→H) :
  ReturnsInHanded {} Tryz.checked os 6 .any (Rows.chainOneSpec.pre6 enc Tryz.prog Tryz.f6 [] false) (Rows.chainOneSpec.post enc Tryz.prog Tryz.f6 false true false false) :=
 law_handed (C:=Tryz.checked) (s:=Rows.chainOneSpec) (tb:=4) (by kernel_rfl) (by kernel_rfl) started (by kernel_rfl) Tryz.func6
   (ChangeSpec.witness6 (enc:=enc) (C:=Tryz.checked) false ⟨#[],#[.int .u8 0,.slice none 0 0,.int .u8 0],[]⟩ 8 (by kernel_rfl) (by kernel_rfl) (by kernel_rfl) (by kernel_rfl))
   rfl (fun ds hds=>match ds,hds with | [_,_,_],_=>rfl) rfl (by kernel_rfl) (by kernel_rfl) h
theorem chainOne_row (h:∀xs,DatL Tryz.prog [5,44,5] xs→Pure Tryz.prog 6 xs (.v (.bool true))):Rows.ChainOneSaid :=
 OpenClaim.holds_of_wide 6 Tryz.f6 rfl rfl rfl rfl rfl rfl rfl ⟨rfl,rfl,rfl,rfl,rfl⟩ rfl rfl rfl rfl rfl (by kernel_rfl) Tryz.func6 (by kernel_rfl)
  (of_decide_eq_true (by kernel_rfl)) (by unfold Func.isWrapper; first | (rw [if_pos (by decide +kernel)]; kernel_rfl) | (rw [if_neg (by decide +kernel)]; exact ⟨rfl,rfl⟩))
  (fun os started H enc _=>chainOne_lifted h os started H enc)
end Go.Proofs.YtaaaipgdnofafaaGreat
