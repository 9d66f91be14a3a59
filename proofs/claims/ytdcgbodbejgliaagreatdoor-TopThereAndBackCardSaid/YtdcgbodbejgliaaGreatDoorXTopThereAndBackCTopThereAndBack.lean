/- The row of TopThereAndBack out of its plain program. No condition. -/
import Derived.LaidLaws
import Derived.LaidHandle
import Derived.Stop.Joined
import Derived.Test.YtdcgbodbejgliaaGreatDoorXTopThereAndBackJf
import Derived.Test.YtdcgbodbejgliaaGreatDoorXTopThereAndBackIn
import Derived.Test.YtdcgbodbejgliaaGreatDoorXTopThereAndBackWk11
open Option renaming some->V
namespace Go.Proofs.YtdcgbodbejgliaaGreatDoor
set_option linter.all false
open Go Go.Cat Go.ChangeShapes Go.WideShapes Go.RowKit Go.Proofs
set_option maxRecDepth 100000
local instance:cD:=⟨False⟩
local instance:oC:=⟨id⟩
theorem ahB(H:∀(WG:List dO)(WI:List UInt8)(WM:List UInt8),IN WG->yL WI->yL WM->FZ WG WI WM=V true):∀xs,oA Tryz.prog [22,9,9] xs->Pure Tryz.prog 5 xs (.v (.bool true)):=by
 intro xs h
 obtain⟨v0,ys0,e0,d0,h0⟩:=h.cons_inv
 subst e0
 have q0:=d0.one (by kernel_rfl)
 obtain⟨x0,k0,o0⟩:=aa3 (by kernel_rfl) q0
 have f0:=(List.cons.inj k0).1
 subst f0
 obtain⟨v1,ys1,e1,d1,h1⟩:=h0.cons_inv
 subst e1
 have q1:=d1.one (by kernel_rfl)
 obtain⟨x1,k1,o1⟩:=G5 (by kernel_rfl) q1
 have f1:=(List.cons.inj k1).1
 subst f1
 obtain⟨v2,ys2,e2,d2,h2⟩:=h1.cons_inv
 subst e2
 have q2:=d2.one (by kernel_rfl)
 obtain⟨x2,k2,o2⟩:=G5 (by kernel_rfl) q2
 have f2:=(List.cons.inj k2).1
 subst f2
 have e:=h2.Oo
 subst e
 exact aja (H x0 x1 x2 o0 o1 o2)
theorem aeh:Rows.topThereAndBackRow.laid=[("errors.errorType",.iface "internal/reflectlite.rtype" (.agg [.ptr (.lit (.string [101,114,114,111,114]))]))]:=rfl
theorem ab6:Tryz.prog.globalNamed "errors.errorType" = V 0:=by kernel_rfl
theorem ago:(Tryz.prog.cutTypes.find? (·.1 == "internal/reflectlite.rtype")).map (·.2)=V 173:=by kernel_rfl
theorem ae6:((List.range 393).filter λt=>Tryz.prog.rowNamed t [101,114,114,111,114])=[68]:=by kernel_rfl
theorem ahH:Tryz.prog.types.size=393:=by kernel_rfl
theorem acw{W:World}(h:laidMetH Tryz.prog Rows.topThereAndBackRow.laid W):W.cell? ⟨0,0,none⟩=V (.iface 173 (.agg #[.pointer (V ⟨2,68,none⟩)])):=by
 rw[aeh]at h
 obtain⟨name,u,ty,e1,e2,e3,e4,e5⟩:=h.2 _ (List.mem_singleton.2 rfl)
 have en:name=[101,114,114,111,114]:=(Option.some.inj e1).symm
 subst en
 obtain rfl:=Option.some.inj (ago.symm.trans e2)
 have hm:ty∈(List.range 393).filter λt=>Tryz.prog.rowNamed t [101,114,114,111,114]:=List.mem_filter.2 ⟨List.mem_range.2 (by rw[<-ahH]; exact e3),e4⟩
 rw[ae6]at hm
 obtain rfl:=List.mem_singleton.1 hm
 have hh:typeHandle Tryz.prog 68=.pointer (V ⟨2,68,none⟩):=by kernel_rfl
 rw[hh]at e5
 simpa using World.var?_cell ab6 e5 0
theorem acn{W:World}(h:laidMetH Tryz.prog Rows.topThereAndBackRow.laid W):ed.ok W (Old W):=λb v hm=>by
 obtain⟨rfl,rfl⟩:=Prod.mk.inj (List.mem_singleton.1 hm)
 have e:=acw h
 exact⟨aaN e,e⟩
noncomputable def VQ (os:Os):World:=
 let w0:=World.holding Tryz.prog os ⟨#[],#[],[]⟩
 { w0 with heap:=w0.heap.modify 0 fun
   | .cells _ t frozen=>.cells #[.iface 173 (.agg #[.pointer (V ⟨2,68,none⟩)])] t frozen
   | o=>o }
theorem aeg(os:Os)(args:Array Value):laidMetH Tryz.prog Rows.topThereAndBackRow.laid ((VQ os).forCall (λ_ _=>0) ⟨#[],args,[]⟩).memory:=
 laidMetH_of_parts (laidMet_nil _ _) (by kernel_rfl)
theorem ahA(h:∀xs,oA Tryz.prog [22,9,9] xs->Pure Tryz.prog 5 xs (.v (.bool true)))(os:Os)(started:os.Started)(H:Type)(enc:TypeId×Value->H):
  ReturnsInHanded {} Tryz.checked os 5 .any (λw args=>(Rows.topThereAndBackSpec.pre enc Tryz.prog Tryz.f5 [] false w args/\laidMetH Tryz.prog Rows.topThereAndBackRow.laid w)/\sizedMet enc Tryz.prog Tryz.f5 (OpenSpec.ofChange Rows.topThereAndBackSpec) false w args) (Rows.topThereAndBackSpec.post enc Tryz.prog Tryz.f5 false true false false):=
 aej (C:=Tryz.checked) (s:=Rows.topThereAndBackSpec) (tb:=4) (X:=λw=>laidMetH Tryz.prog Rows.topThereAndBackRow.laid w) (λ_ _ hh h=>laidMetH.of_heap hh h) (by kernel_rfl) (by kernel_rfl) started (by kernel_rfl) Tryz.func5
   (ChangeSpec.witness_at (enc:=enc) (C:=Tryz.checked) (os:=os) (X:=λw _=>laidMetH Tryz.prog Rows.topThereAndBackRow.laid w) false (VQ os) #[.slice none 0 0,.string ⟨#[]⟩,.string ⟨#[]⟩] 8 rfl (by kernel_rfl) (by kernel_rfl) (by kernel_rfl) (by kernel_rfl) (by kernel_rfl) (aeg os _))
   rfl (λds DA=>match ds,DA with | [_,_,_],_=>rfl) rfl (by kernel_rfl) (by kernel_rfl) (λ_ hx=>acn hx) h
theorem ahC(h:∀xs,oA Tryz.prog [22,9,9] xs->Pure Tryz.prog 5 xs (.v (.bool true))):Rows.TopThereAndBackSaid:=
 OpenClaim.holds_of_wide 5 Tryz.f5 rfl rfl rfl rfl rfl rfl rfl ⟨rfl,rfl,rfl,rfl,rfl⟩ rfl rfl rfl rfl rfl (by kernel_rfl) Tryz.func5 jf
  (of_decide_eq_true (by kernel_rfl)) (by unfold Func.isWrapper; first | (rw[if_pos (by decide +kernel)]; kernel_rfl) | (rw[if_neg (by decide +kernel)]; exact⟨rfl,rfl⟩))
  (λos started H enc _=>ahA h os started H enc)
end Go.Proofs.YtdcgbodbejgliaaGreatDoor
