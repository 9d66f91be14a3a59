/- The row of TopPacks out of its plain program. No condition. -/
import Derived.LaidLaws
import Derived.LaidHandle
import Derived.Stop.Joined
import Derived.Test.YtdcgbodbejgliaaGreatDoorXTopPacksJf
import Derived.Test.YtdcgbodbejgliaaGreatDoorXTopPacksIn
import Derived.Test.YtdcgbodbejgliaaGreatDoorXTopPacksWk9
namespace Go.Proofs.YtdcgbodbejgliaaGreatDoor
set_option linter.all false
open Go Go.Cat Go.ChangeShapes Go.WideShapes Go.RowKit Go.Proofs
set_option maxRecDepth 100000
local instance:cM:=⟨False⟩
local instance:o8:=⟨id⟩
theorem aiz (H:∀(WU:List bN),JB WU→CA WU=some true):∀xs,oo Tryz.prog [22] xs→Pure Tryz.prog 7 xs (.v (.bool true)):=by
 intro xs h
 obtain ⟨v0,ys0,e0,d0,h0⟩:=h.cons_inv
 subst e0
 have q0:=d0.one (by kernel_rfl)
 obtain ⟨x0,k0,o0⟩:=aa3 (by kernel_rfl) q0
 have f0:=(List.cons.inj k0).1
 subst f0
 have e:=h0.O2
 subst e
 exact ajU (H x0 o0)
theorem aek : Rows.topPacksRow.laid = [("errors.errorType", .iface "internal/reflectlite.rtype" (.agg [.ptr (.lit (.string [101, 114, 114, 111, 114]))]))] := rfl
theorem abR : Tryz.prog.globalNamed "errors.errorType" = some 0 := by kernel_rfl
theorem ag2 : (Tryz.prog.cutTypes.find? (·.1 == "internal/reflectlite.rtype")).map (·.2) = some 173 := by kernel_rfl
theorem ae7:((List.range 393).filter fun t=>Tryz.prog.rowNamed t [101,114,114,111,114])=[68]:=by kernel_rfl
theorem aiF:Tryz.prog.types.size=393:=by kernel_rfl
theorem ace {W:World} (h:laidMetH Tryz.prog Rows.topPacksRow.laid W):W.cell? ⟨0,0,none⟩=some (.iface 173 (.agg #[.pointer (some ⟨2,68,none⟩)])):=by
 rw [aek] at h
 obtain ⟨name,u,ty,e1,e2,e3,e4,e5⟩:=h.2 _ (List.mem_singleton.2 rfl)
 have en:name=[101,114,114,111,114]:=(Option.some.inj e1).symm
 subst en
 obtain rfl:=Option.some.inj (ag2.symm.trans e2)
 have hm:ty∈(List.range 393).filter fun t=>Tryz.prog.rowNamed t [101,114,114,111,114]:=List.mem_filter.2 ⟨List.mem_range.2 (by rw [←aiF]; exact e3),e4⟩
 rw [ae7] at hm
 obtain rfl:=List.mem_singleton.1 hm
 have hh:typeHandle Tryz.prog 68=.pointer (some ⟨2,68,none⟩):=by kernel_rfl
 rw [hh] at e5
 simpa using World.var?_cell abR e5 0
theorem ab6 {W:World} (h:laidMetH Tryz.prog Rows.topPacksRow.laid W):dX.ok W (Old W):=fun b v hm=>by
 obtain ⟨rfl,rfl⟩:=Prod.mk.inj (List.mem_singleton.1 hm)
 have e:=ace h
 exact ⟨aaU e,e⟩
noncomputable def VV (os:Os):World :=
 let w0:=World.holding Tryz.prog os ⟨#[],#[],[]⟩
 { w0 with heap:=w0.heap.modify 0 fun
   | .cells _ t frozen=>.cells #[.iface 173 (.agg #[.pointer (some ⟨2,68,none⟩)])] t frozen
   | o=>o }
theorem aej (os:Os) (args:Array Value):laidMetH Tryz.prog Rows.topPacksRow.laid ((VV os).forCall (fun _ _=>0) ⟨#[],args,[]⟩).memory :=
 laidMetH_of_parts (laidMet_nil _ _) (by kernel_rfl)
theorem aiy (h:∀xs,oo Tryz.prog [22] xs→Pure Tryz.prog 7 xs (.v (.bool true))) (os:Os) (started:os.Started) (H:Type) (enc:TypeId×Value→H) :
  ReturnsInHanded {} Tryz.checked os 7 .any (fun w args=>(Rows.topPacksSpec.pre enc Tryz.prog Tryz.f7 [] false w args∧laidMetH Tryz.prog Rows.topPacksRow.laid w)∧sizedMet enc Tryz.prog Tryz.f7 (OpenSpec.ofChange Rows.topPacksSpec) false w args) (Rows.topPacksSpec.post enc Tryz.prog Tryz.f7 false true false false) :=
 aen (C:=Tryz.checked) (s:=Rows.topPacksSpec) (tb:=4) (X:=fun w=>laidMetH Tryz.prog Rows.topPacksRow.laid w) (fun _ _ hh h=>laidMetH.of_heap hh h) (by kernel_rfl) (by kernel_rfl) started (by kernel_rfl) Tryz.func7
   (ChangeSpec.witness_at (enc:=enc) (C:=Tryz.checked) (os:=os) (X:=fun w _=>laidMetH Tryz.prog Rows.topPacksRow.laid w) false (VV os) #[.slice none 0 0] 8 rfl (by kernel_rfl) (by kernel_rfl) (by kernel_rfl) (by kernel_rfl) (by kernel_rfl) (aej os _))
   rfl (fun ds Eo=>match ds,Eo with | [_],_=>rfl) rfl (by kernel_rfl) (by kernel_rfl) (fun _ hx=>ab6 hx) h
theorem aiA (h:∀xs,oo Tryz.prog [22] xs→Pure Tryz.prog 7 xs (.v (.bool true))):Rows.TopPacksSaid :=
 OpenClaim.holds_of_wide 7 Tryz.f7 rfl rfl rfl rfl rfl rfl rfl ⟨rfl,rfl,rfl,rfl,rfl⟩ rfl rfl rfl rfl rfl (by kernel_rfl) Tryz.func7 jf
  (of_decide_eq_true (by kernel_rfl)) (by unfold Func.isWrapper; first | (rw [if_pos (by decide +kernel)]; kernel_rfl) | (rw [if_neg (by decide +kernel)]; exact ⟨rfl,rfl⟩))
  (fun os started H enc _=>aiy h os started H enc)
end Go.Proofs.YtdcgbodbejgliaaGreatDoor
