/- The row of ChainStale out of its plain program. No condition. -/
import Derived.Test.YtaaaipgdnofafaaGreatXChainStaleIn
import Derived.Test.YtaaaipgdnofafaaGreatXChainStaleWk0
import Derived.Test.YtaaaipgdnofafaaGreatXChainStaleWk1
import Derived.Test.YtaaaipgdnofafaaGreatXChainStaleWk2
import Derived.Test.YtaaaipgdnofafaaGreatXChainStaleWk3
import Derived.Test.YtaaaipgdnofafaaGreatXChainStaleWk4
import Derived.Test.YtaaaipgdnofafaaGreatRows
namespace Go.Proofs.YtaaaipgdnofafaaGreat
set_option linter.all false
open Go Go.Cat Go.ChangeShapes Go.WideShapes Go.RowKit Go.Proofs
set_option maxRecDepth 100000
local instance:Mono:=⟨False⟩
local instance:Off:=⟨id⟩
theorem chainStale_pure (H:∀(p_length:UInt8) (p_l:List law26_Act) (p_who:UInt8),ok_u8 p_length→okL_c_law26_Act p_l→ok_u8 p_who→law26_ChainStale p_length p_l p_who=some true):∀xs,DatL Tryz.prog [5,44,5] xs→Pure Tryz.prog 7 xs (.v (.bool true)):=by
 intro xs h
 obtain ⟨v0,ys0,e0,d0,h0⟩:=h.cons_inv
 subst e0
 have q0:=d0.one (by kernel_rfl)
 obtain ⟨x0,k0,o0⟩:=dat_u8 (by kernel_rfl) q0
 have f0:=(List.cons.inj k0).1
 subst f0
 obtain ⟨v1,ys1,e1,d1,h1⟩:=h0.cons_inv
 subst e1
 have q1:=d1.one (by kernel_rfl)
 obtain ⟨x1,k1,o1⟩:=datL_c_law26_Act (by kernel_rfl) q1
 have f1:=(List.cons.inj k1).1
 subst f1
 obtain ⟨v2,ys2,e2,d2,h2⟩:=h1.cons_inv
 subst e2
 have q2:=d2.one (by kernel_rfl)
 obtain ⟨x2,k2,o2⟩:=dat_u8 (by kernel_rfl) q2
 have f2:=(List.cons.inj k2).1
 subst f2
 have e:=h2.nil_inv
 subst e
 exact w_law26_ChainStale (H x0 x1 x2 o0 o1 o2)
theorem chainStale_lifted (h:∀xs,DatL Tryz.prog [5,44,5] xs→Pure Tryz.prog 7 xs (.v (.bool true))) (os:Os) (started:os.Started) (H:Type) (enc:TypeId×Value→H) :
  ReturnsInHanded {} Tryz.checked os 7 .any (Rows.chainStaleSpec.pre6 enc Tryz.prog Tryz.f7 [] false) (Rows.chainStaleSpec.post enc Tryz.prog Tryz.f7 false true false false) :=
 law_handed (C:=Tryz.checked) (s:=Rows.chainStaleSpec) (tb:=4) (by kernel_rfl) (by kernel_rfl) started (by kernel_rfl) Tryz.func7
   (ChangeSpec.witness6 (enc:=enc) (C:=Tryz.checked) false ⟨#[],#[.int .u8 0,.slice none 0 0,.int .u8 0],[]⟩ 8 (by kernel_rfl) (by kernel_rfl) (by kernel_rfl) (by kernel_rfl))
   rfl (fun ds hds=>match ds,hds with | [_,_,_],_=>rfl) rfl (by kernel_rfl) (by kernel_rfl) h
theorem chainStale_row (h:∀xs,DatL Tryz.prog [5,44,5] xs→Pure Tryz.prog 7 xs (.v (.bool true))):Rows.ChainStaleSaid :=
 OpenClaim.holds_of_wide 7 Tryz.f7 rfl rfl rfl rfl rfl rfl rfl ⟨rfl,rfl,rfl,rfl,rfl⟩ rfl rfl rfl rfl rfl (by kernel_rfl) Tryz.func7 (by kernel_rfl)
  (of_decide_eq_true (by kernel_rfl)) (by unfold Func.isWrapper; first | (rw [if_pos (by decide +kernel)]; kernel_rfl) | (rw [if_neg (by decide +kernel)]; exact ⟨rfl,rfl⟩))
  (fun os started H enc _=>chainStale_lifted h os started H enc)
end Go.Proofs.YtaaaipgdnofafaaGreat
