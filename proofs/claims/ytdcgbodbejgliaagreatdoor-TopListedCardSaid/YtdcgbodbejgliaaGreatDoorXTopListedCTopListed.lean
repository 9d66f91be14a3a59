/- The row of TopListed out of its plain program. No condition. -/
import Derived.LaidLaws
import Derived.LaidHandle
import Derived.Stop.Joined
import Derived.Test.YtdcgbodbejgliaaGreatDoorXTopListedJf
import Derived.Test.YtdcgbodbejgliaaGreatDoorXTopListedIn
import Derived.Test.YtdcgbodbejgliaaGreatDoorXTopListedWk11
namespace Go.Proofs.YtdcgbodbejgliaaGreatDoor
set_option linter.all false
open Go Go.Cat Go.ChangeShapes Go.WideShapes Go.RowKit Go.Proofs
set_option maxRecDepth 100000
local instance:bU:=⟨False⟩
local instance:mP:=⟨id⟩
theorem aed (H:∀(SR:List dP) (SS:UInt8),EP SR→Bf SS→Cp SR SS=some true):∀xs,mN Tryz.prog [22,5] xs→Pure Tryz.prog 3 xs (.v (.bool true)):=by
 intro xs h
 obtain ⟨v0,ys0,e0,d0,h0⟩:=h.cons_inv
 subst e0
 have q0:=d0.one (by kernel_rfl)
 obtain ⟨x0,k0,o0⟩:=Xj (by kernel_rfl) q0
 have f0:=(List.cons.inj k0).1
 subst f0
 obtain ⟨v1,ys1,e1,d1,h1⟩:=h0.cons_inv
 subst e1
 have q1:=d1.one (by kernel_rfl)
 obtain ⟨x1,k1,o1⟩:=Pt (by kernel_rfl) q1
 have f1:=(List.cons.inj k1).1
 subst f1
 have e:=h1.KC
 subst e
 exact afJ (H x0 x1 o0 o1)
theorem abi : Rows.topListedRow.laid = [("errors.errorType", .iface "internal/reflectlite.rtype" (.agg [.ptr (.lit (.string [101, 114, 114, 111, 114]))]))] := rfl
theorem Yt : Tryz.prog.globalNamed "errors.errorType" = some 0 := by kernel_rfl
theorem acY : (Tryz.prog.cutTypes.find? (·.1 == "internal/reflectlite.rtype")).map (·.2) = some 173 := by kernel_rfl
theorem abZ:((List.range 393).filter fun t=>Tryz.prog.rowNamed t [101,114,114,111,114])=[68]:=by kernel_rfl
theorem aek:Tryz.prog.types.size=393:=by kernel_rfl
theorem Zn {W:World} (h:laidMetH Tryz.prog Rows.topListedRow.laid W):W.cell? ⟨0,0,none⟩=some (.iface 173 (.agg #[.pointer (some ⟨2,68,none⟩)])):=by
 rw [abi] at h
 obtain ⟨name,u,ty,e1,e2,e3,e4,e5⟩:=h.2 _ (List.mem_singleton.2 rfl)
 have en:name=[101,114,114,111,114]:=(Option.some.inj e1).symm
 subst en
 obtain rfl:=Option.some.inj (acY.symm.trans e2)
 have hm:ty∈(List.range 393).filter fun t=>Tryz.prog.rowNamed t [101,114,114,111,114]:=List.mem_filter.2 ⟨List.mem_range.2 (by rw [←aek]; exact e3),e4⟩
 rw [abZ] at hm
 obtain rfl:=List.mem_singleton.1 hm
 have hh:typeHandle Tryz.prog 68=.pointer (some ⟨2,68,none⟩):=by kernel_rfl
 rw [hh] at e5
 simpa using World.var?_cell Yt e5 0
theorem YW {W:World} (h:laidMetH Tryz.prog Rows.topListedRow.laid W):dC.ok W (Old W):=fun b v hm=>by
 obtain ⟨rfl,rfl⟩:=Prod.mk.inj (List.mem_singleton.1 hm)
 have e:=Zn h
 exact ⟨W0 e,e⟩
noncomputable def Sa (os:Os):World :=
 let w0:=World.holding Tryz.prog os ⟨#[],#[],[]⟩
 { w0 with heap:=w0.heap.modify 0 fun
   | .cells _ t frozen=>.cells #[.iface 173 (.agg #[.pointer (some ⟨2,68,none⟩)])] t frozen
   | o=>o }
theorem abh (os:Os) (args:Array Value):laidMetH Tryz.prog Rows.topListedRow.laid ((Sa os).forCall (fun _ _=>0) ⟨#[],args,[]⟩).memory :=
 laidMetH_of_parts (laidMet_nil _ _) (by kernel_rfl)
theorem aec (h:∀xs,mN Tryz.prog [22,5] xs→Pure Tryz.prog 3 xs (.v (.bool true))) (os:Os) (started:os.Started) (H:Type) (enc:TypeId×Value→H) :
  ReturnsInHanded {} Tryz.checked os 3 .any (fun w args=>(Rows.topListedSpec.pre enc Tryz.prog Tryz.f3 [] false w args∧laidMetH Tryz.prog Rows.topListedRow.laid w)∧sizedMet enc Tryz.prog Tryz.f3 (OpenSpec.ofChange Rows.topListedSpec) false w args) (Rows.topListedSpec.post enc Tryz.prog Tryz.f3 false true false false) :=
 abl (C:=Tryz.checked) (s:=Rows.topListedSpec) (tb:=4) (X:=fun w=>laidMetH Tryz.prog Rows.topListedRow.laid w) (fun _ _ hh h=>laidMetH.of_heap hh h) (by kernel_rfl) (by kernel_rfl) started (by kernel_rfl) Tryz.func3
   (ChangeSpec.witness_at (enc:=enc) (C:=Tryz.checked) (os:=os) (X:=fun w _=>laidMetH Tryz.prog Rows.topListedRow.laid w) false (Sa os) #[.slice none 0 0,.int .u8 0] 8 rfl (by kernel_rfl) (by kernel_rfl) (by kernel_rfl) (by kernel_rfl) (by kernel_rfl) (abh os _))
   rfl (fun ds Ar=>match ds,Ar with | [_,_],_=>rfl) rfl (by kernel_rfl) (by kernel_rfl) (fun _ hx=>YW hx) h
theorem aee (h:∀xs,mN Tryz.prog [22,5] xs→Pure Tryz.prog 3 xs (.v (.bool true))):Rows.TopListedSaid :=
 OpenClaim.holds_of_wide 3 Tryz.f3 rfl rfl rfl rfl rfl rfl rfl ⟨rfl,rfl,rfl,rfl,rfl⟩ rfl rfl rfl rfl rfl (by kernel_rfl) Tryz.func3 jf
  (of_decide_eq_true (by kernel_rfl)) (by unfold Func.isWrapper; first | (rw [if_pos (by decide +kernel)]; kernel_rfl) | (rw [if_neg (by decide +kernel)]; exact ⟨rfl,rfl⟩))
  (fun os started H enc _=>aec h os started H enc)
end Go.Proofs.YtdcgbodbejgliaaGreatDoor
