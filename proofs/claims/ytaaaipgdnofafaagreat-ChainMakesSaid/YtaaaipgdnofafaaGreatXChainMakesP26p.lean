/- Chains, plain: what is written, made, cut and mended. No condition. -/
import Derived.Test.YtaaaipgdnofafaaGreatXChainMakesP26o
namespace Go.Proofs
set_option linter.all false
open Go Go.Cat
set_option linter.all false
theorem drop_cons {α : Type} {l : List α} {n : Nat} {x : α} (hx : l[n]? = some x) : l.drop n = x :: l.drop (n + 1) := by
 obtain ⟨h3, rfl⟩ := List.getElem?_eq_some_iff.1 hx
 exact List.drop_eq_getElem_cons h3
theorem tells_not {P : Prop} {b : Bool} (h : Tells P b) : (!b) = true ↔ ¬ P := by unfold Tells at h; rw [← h]; simp
section
variable {c : api_Chain} {D : List api_Disk} {n : Nat}
theorem ChD.take (h : ChD c D n) (k : Nat) : ∀ s, s ∈ c.Servers.take k → isS D s := fun s hs => h.s s (List.mem_of_mem_take hs)
theorem ChD.layT (h : ChD c D n) (C : api_Copy) (k : Nat) : FitD (layAll C D (c.Servers.take k)) (n + 10) := (layAll_fit h.f (h.take k)).mono (by have := h.n; have := List.length_take_le' k c.Servers; omega)
theorem p_layingC (h : ChD c D n) (c' : api_Chain) (x : List UInt8) : chain_laying c' D x = some D := by
 have := h.f.len
 unfold chain_laying
 rw [eq_slices_Clone_api_Disk_api_Disk D (by omega)]; rfl
noncomputable def writeGo (D0 : List api_Disk) (C : api_Copy) (upto : Int) : Nat → List Int → List api_Disk → List api_Disk × Bool
 | _, [], D => (D, true)
 | k, s :: l, D => if (decide ((k : Int) ≥ upto) || (atS D0 s).Down) = true then (D, false) else writeGo D0 C upto (k + 1) l (lay1 D s C)
noncomputable def writeC (c : api_Chain) (D : List api_Disk) (x : List UInt8) (upto : Int) : List api_Disk × Bool := if x.length > 64 then (D, false) else writeGo D (newC c.Id c.Ver x) upto 0 c.Servers D
theorem p_Clone_int (l : List Int) (h : l.length ≤ 1000000) : slices_Clone_int_int l = some l := eq_slices_Clone_int_int l (by omega)
theorem p_anyDown (l : List Int) (hl : l.length ≤ 10000) (hs : ∀ s, s ∈ l → isS D s) : slices_ContainsFunc_int_int__chain_Make_1 l D = some (l.any fun s => (atS D s).Down) := by
 refine Tot.eq ?_
 unfold slices_ContainsFunc_int_int__chain_Make_1
 refine Tot.bind (R := fun r => decide (r ≥ 0) = l.any fun s => (atS D s).Down) ?_ fun r hr => Tot.ret hr
 unfold slices_IndexFunc_int_int__chain_Make_1 slices_IndexFunc_int_int__chain_Make_1_L1
 refine Tot.each0 (l := l) (fun k => ((l.take k).any fun s => (atS D s).Down) = false) (fun k s hlt hx hi => ?_) (fun hi => ?_) (by simp)
 ·unfold slices_IndexFunc_int_int__chain_Make_1_B1
  have hsS := hs s (List.mem_of_getElem? hx)
  refine Tot.cond (by simp; omega) (Tot.bindeq (idx_some hx) (Tot.bindeq (a := (atS D s).Down) (by unfold chain_Make_1; rw [at_idx hsS]; rfl) (Tot.ite (fun e => Tot.out (Tot.ret ?_)) fun e => Tot.chk (by unfold InI64; omega) (Tot.inl ⟨rfl, ?_⟩))))
  ·have : (l.any fun s => (atS D s).Down) = true := List.any_eq_true.2 ⟨s, List.mem_of_getElem? hx, e⟩
   rw [this]; simp
  ·rw [take_snoc hx, List.any_append, hi]; simpa using e
 ·rw [List.take_length] at hi
  unfold slices_IndexFunc_int_int__chain_Make_1_B1 slices_IndexFunc_int_int__chain_Make_1_J1
  exact Tot.ncond (by simp) (Tot.out (Tot.ret (by rw [hi]; rfl)))
noncomputable def makeC (id : Int) (l : List Int) (D : List api_Disk) (x : List UInt8) : api_Chain × List api_Disk × Int :=
 open Classical in if ¬ RightP ⟨id, 1, l⟩ D.length ∨ 64 < x.length then (⟨0, 0, []⟩, D, 1) else if (l.any fun s => (atS D s).Down) = true then (⟨0, 0, []⟩, D, 40) else (⟨id, 1, l⟩, layAll (newC id 1 x) D l, 0)
theorem right_ch {c : api_Chain} {D : List api_Disk} {n : Nat} (h : RightP c D.length) (hf : FitD D n) : ChD c D n := ⟨hf, fun s hs => h.1.1 s hs, by have := h.2.2; omega⟩
theorem p_MakeC (hf : FitD D n) (hn : n ≤ 300) (id : Int) {l : List Int} (hl : l.length ≤ 10000) {x : List UInt8} (hx : x.length ≤ 10000) : chain_Make id l D x = some (makeC id l D x) := by
 refine Tot.eq ?_
 unfold chain_Make makeC
 refine Tot.bindeq (p_Clone_int l (by omega)) (Tot.bind (R := Tells (¬ RightP ⟨id, 1, l⟩ D.length ∨ 64 < x.length)) (Tot.bind (p_Right _ D hl) fun b hb => Tot.bind (R := Tells (¬ RightP ⟨id, 1, l⟩ D.length ∨ 64 < x.length)) (Tot.orI (P := ¬ RightP ⟨id, 1, l⟩ D.length) (tells_not hb) fun _ => Tot.dec (by omega)) fun b hb => Tot.ret hb) fun v hv => Tot.ite (fun e => Tot.ret (by rw [if_pos (hv.1 e)])) fun e => ?_)
 have hno : ¬ (¬ RightP ⟨id, 1, l⟩ D.length ∨ 64 < x.length) := fun h => e (hv.2 h)
 have hR : RightP ⟨id, 1, l⟩ D.length := Classical.byContradiction fun h => hno (.inl h)
 have h := right_ch hR hf
 have h10 := h.n
 rw [if_neg hno]
 refine Tot.bindeq (p_anyDown l hl h.s) (Tot.ite (fun e => Tot.ret (by rw [if_pos e])) fun e => ?_)
 rw [if_neg e]
 refine Tot.bindeq (p_layingC h _ x) (Tot.bind (R := (· = layAll (newC id 1 x) D l)) ?_ fun r hr => Tot.ret (by rw [hr]))
 unfold chain_Make_L1
 refine Tot.each (l := l) (fun k a => a = layAll (newC id 1 x) D (l.take k)) (fun k s a hlt hs ha => ?_) (fun a ha => ?_) D rfl
 ·have hsS := h.mem hs
  have haS : isS a s := by rw [ha]; exact layAll_isS.2 hsS
  have hf : FitD a (n + 10) := by rw [ha]; exact h.layT _ k
  unfold chain_Make_B1
  exact Tot.cond (by simp; omega) (Tot.bindeq (idx_some hs) (Tot.bindeq (p_lay1 hf (by omega) haS _ hx) (Tot.chk (by unfold InI64; dsimp only; omega) (Tot.inl ⟨rfl, by rw [take_snoc hs, layAll_snoc, ← ha]⟩))))
 ·unfold chain_Make_B1
  exact Tot.ncond (by simp) (Tot.out (Tot.ret (by rw [List.take_length] at ha; exact ha)))
theorem r_MakeC (hf : FitD D n) (hn : n ≤ 300) (id : Int) {l : List Int} (hl : l.length ≤ 10000) {x : List UInt8} (hx : x.length ≤ 10000) : ref26_Make id l D x = some (makeC id l D x) := by
 refine Tot.eq ?_
 unfold ref26_Make makeC
 refine Tot.bind (r_Right _ D hl) fun b hb => Tot.bind (R := Tells (¬ RightP ⟨id, 1, l⟩ D.length ∨ 64 < x.length)) (Tot.bind (R := Tells (¬ RightP ⟨id, 1, l⟩ D.length ∨ 64 < x.length)) (Tot.orI (P := ¬ RightP ⟨id, 1, l⟩ D.length) (tells_not hb) fun _ => Tot.dec (by omega)) fun b hb => Tot.ret hb) fun v hv => Tot.ite (fun e => Tot.ret (by rw [if_pos (hv.1 e)])) fun e => ?_
 have hno : ¬ (¬ RightP ⟨id, 1, l⟩ D.length ∨ 64 < x.length) := fun h => e (hv.2 h)
 have hR : RightP ⟨id, 1, l⟩ D.length := Classical.byContradiction fun h => hno (.inl h)
 have h := right_ch hR hf
 have h10 := h.n
 rw [if_neg hno]
 unfold ref26_Make_L1
 refine Tot.each' (l := l) (fun k a => a = layAll (newC id 1 x) D (l.take k) ∧ ((l.take k).any fun s => (atS D s).Down) = false) (fun k s a hlt hs ha => ?_) (fun a ha => ?_) D ⟨rfl, by simp⟩
 ·obtain ⟨ha, hdn⟩ := ha
  have hsS := h.mem hs
  have haS : isS a s := by rw [ha]; exact layAll_isS.2 hsS
  have hf : FitD a (n + 10) := by rw [ha]; exact h.layT _ k
  unfold ref26_Make_B1
  refine Tot.cond (by simp; omega) (Tot.bindeq (idx_some hs) (Tot.bindeq (at_idx hsS) (Tot.ite (fun e => Tot.out (Tot.ret ?_)) fun e => Tot.bindeq (idx_some hs) (Tot.bindeq (r_lay1 hf (by omega) haS _ 1 hx) (Tot.chk (by unfold InI64; dsimp only; omega) (Tot.inl ⟨rfl, by rw [take_snoc hs, layAll_snoc, ← ha], ?_⟩))))))
  ·rw [if_pos (List.any_eq_true.2 ⟨s, List.mem_of_getElem? hs, e⟩)]
  ·rw [take_snoc hs, List.any_append, hdn]; simpa using e
 ·obtain ⟨ha, hdn⟩ := ha
  rw [List.take_length] at ha hdn
  unfold ref26_Make_B1 ref26_Make_J1
  exact Tot.ncond (by simp) (Tot.out (Tot.ret (by rw [if_neg (by simp [hdn]), ha])))
noncomputable def mendC (c : api_Chain) (D : List api_Disk) (s : Int) : api_Chain × List api_Disk × Int :=
 open Classical in if s ∈ c.Servers ∨ ¬ isS D s then (c, D, 1) else if 5 ≤ c.Servers.length then (c, D, 76) else if (atS D s).Down = true then (c, D, 40) else if (readC c D).2 ≠ 0 then (c, D, (readC c D).2)
 else (⟨c.Id, c.Ver, c.Servers ++ [s]⟩, lay1 D s (newC c.Id c.Ver (readC c D).1), 0)
end
end Go.Proofs
