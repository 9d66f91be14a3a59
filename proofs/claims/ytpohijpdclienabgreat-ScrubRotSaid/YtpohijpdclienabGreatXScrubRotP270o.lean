/- Scrubbing, plain: what is planned. No condition. -/
import Derived.Test.YtpohijpdclienabGreatXScrubRotP270n
namespace Go.Proofs
set_option linter.all false
open Go Go.Cat
set_option linter.all false
theorem stand_intact {d : api_Disk} {c : api_Chain} : standD d c = 0 ↔ d.Down = false ∧ (getN d c.Id).2 = 0 ∧ (getN d c.Id).1.Ver = c.Ver := by
 unfold standD
 cases d.Down with
 | true => simp
 | false =>
  simp only [Bool.false_eq_true, if_false]
  by_cases h1 : (getN d c.Id).2 = 41
  ·rw [if_pos h1]; exact ⟨fun h => by omega, fun h => by omega⟩
  rw [if_neg h1]
  by_cases h2 : (getN d c.Id).2 ≠ 0
  ·rw [if_pos h2]; exact ⟨fun h => by omega, fun h => (h2 h.2.1).elim⟩
  rw [if_neg h2]
  by_cases h3 : (getN d c.Id).1.Ver < c.Ver
  ·rw [if_pos h3]; exact ⟨fun h => by omega, fun h => by omega⟩
  rw [if_neg h3]
  by_cases h4 : (getN d c.Id).1.Ver > c.Ver
  ·rw [if_pos h4]; exact ⟨fun h => by omega, fun h => by omega⟩
  rw [if_neg h4]
  exact ⟨fun _ => ⟨trivial, by omega, by omega⟩, fun _ => rfl⟩
theorem stands_intact {D : List api_Disk} {c : api_Chain} {s : Int} : standsN D c s = 0 ↔ ∃ d, D[s.toNat]? = some d ∧ d.Down = false ∧ (getN d c.Id).2 = 0 ∧ (getN d c.Id).1.Ver = c.Ver := by
 unfold standsN
 cases h : D[s.toNat]? with
 | none => exact ⟨fun h => (by cases h), fun ⟨d, h, _⟩ => (by cases h)⟩
 | some d => exact stand_intact.trans ⟨fun h => ⟨d, rfl, h⟩, fun ⟨d', h, h'⟩ => (by cases h; exact h')⟩
theorem stand_away {d : api_Disk} {c : api_Chain} : standD d c = 1 ↔ d.Down = true := by
 unfold standD
 cases d.Down with
 | true => simp
 | false => simp only [Bool.false_eq_true, if_false, iff_false]; (repeat' split) <;> omega
theorem stands_away {D : List api_Disk} {c : api_Chain} {s : Int} : standsN D c s = 1 ↔ D[s.toNat]? = none ∨ ∃ d, D[s.toNat]? = some d ∧ d.Down = true := by
 unfold standsN
 cases h : D[s.toNat]? with
 | none => simp
 | some d => simp [stand_away]
theorem mem_intact {D : List api_Disk} {c : api_Chain} {s : Int} : s ∈ intactN D c ↔ s ∈ c.Servers ∧ standsN D c s = 0 := by
 unfold intactN; rw [List.mem_filter]; simp
theorem mem_look {D : List api_Disk} {c : api_Chain} {f : api_Find} : f ∈ lookN D c ↔ ∃ s, s ∈ c.Servers ∧ standsN D c s ≠ 0 ∧ f = findN D c s := by
 unfold lookN; rw [List.mem_map]
 exact ⟨fun ⟨s, h, e⟩ => ⟨s, (List.mem_filter.1 h).1, by simpa using (List.mem_filter.1 h).2, e.symm⟩, fun ⟨s, h1, h2, e⟩ => ⟨s, List.mem_filter.2 ⟨h1, by simpa using h2⟩, e.symm⟩⟩
instance : Inhabited api_Find := ⟨⟨0, 0, 0⟩⟩
noncomputable def sLook (D : List api_Disk) (c : api_Chain) : List api_Find := sortBy (fun a b => cmpI a.Server b.Server) (lookN D c)
theorem look_len {D : List api_Disk} {c : api_Chain} (hc : ChainOk c) : (lookN D c).length ≤ 12 := by
 unfold lookN; rw [List.length_map]; exact Nat.le_trans (List.length_filter_le _ _) hc.n
theorem sLook_perm (D : List api_Disk) (c : api_Chain) : (sLook D c).Perm (lookN D c) := (sortBy_spec plan_cmp.2 _).1
theorem sLook_mem {D : List api_Disk} {c : api_Chain} {f : api_Find} : f ∈ sLook D c ↔ f ∈ lookN D c := (sLook_perm D c).mem_iff
theorem t_Index (l : List Int) (x : Int) (h : l.length ≤ 100000) : Tot (slices_Index_int_int l x) (fun r => -1 ≤ r ∧ r < l.length) := by
 unfold slices_Index_int_int slices_Index_int_int_L1
 refine Tot.each0 (l := l) (fun _ => True) (fun n y hlt hy _ => ?_) (fun _ => ?_) trivial
 ·unfold slices_Index_int_int_B1
  exact Tot.cond (by simp; omega) (Tot.bindeq (idx_some hy) (Tot.ite (fun _ => Tot.out (Tot.ret (by omega))) fun _ => Tot.chk (by unfold InI64; omega) (Tot.inl ⟨rfl, trivial⟩)))
 ·unfold slices_Index_int_int_B1
  exact Tot.ncond (by simp) (Tot.out (Tot.ret (by omega)))
theorem t_IndexF (own : List Int) (c : api_Chain) (k : Int) (h : own.length ≤ 100000) (hc : c.Servers.length ≤ 100000) : Tot (slices_IndexFunc_int_int__scrub_next_1 own c k) (fun r => -1 ≤ r ∧ r < own.length) := by
 unfold slices_IndexFunc_int_int__scrub_next_1 slices_IndexFunc_int_int__scrub_next_1_L1
 refine Tot.each0 (l := own) (fun _ => True) (fun n y hlt hy _ => ?_) (fun _ => ?_) trivial
 ·unfold slices_IndexFunc_int_int__scrub_next_1_B1
  refine Tot.cond (by simp; omega) (Tot.bindeq (idx_some hy) (Tot.bind (R := fun _ => True) ?_ fun b _ => Tot.ite (fun _ => Tot.out (Tot.ret (by omega))) fun _ => Tot.chk (by unfold InI64; omega) (Tot.inl ⟨rfl, trivial⟩)))
  unfold scrub_next_1
  exact Tot.bind (t_Index c.Servers y hc) fun r _ => Tot.ret trivial
 ·unfold slices_IndexFunc_int_int__scrub_next_1_B1
  exact Tot.ncond (by simp) (Tot.out (Tot.ret (by omega)))
theorem t_next {c : api_Chain} {own : List Int} (hc : ChainOk c) (h : own.length ≤ 12) (h0 : own ≠ []) (s : Int) : Tot (scrub_next c own s) (· ∈ own) := by
 have hpos : 0 < own.length := List.length_pos_iff.2 h0
 have hcn := hc.n
 unfold scrub_next
 refine Tot.bind (t_Index c.Servers s (by omega)) fun k _ => Tot.bind (t_IndexF own c k (by omega) (by omega)) fun r hr => Tot.ite (fun h1 => ?_) fun h1 => ?_
 ·have : 0 ≤ r := by simpa using h1
  exact Tot.bind (Tot.idx (Q := fun x => x ∈ own) this hr.2 fun x hx => List.mem_of_getElem? hx) fun x hx => Tot.ret hx
 ·exact Tot.chk (by unfold InI64; omega) (Tot.bind (Tot.idx (Q := fun x => x ∈ own) (by omega) (by omega) fun x hx => List.mem_of_getElem? hx) fun x hx => Tot.ret hx)
noncomputable def nextN (c : api_Chain) (own : List Int) (s : Int) : Int := (scrub_next c own s).getD 0
theorem p_next {c : api_Chain} {own : List Int} (hc : ChainOk c) (h : own.length ≤ 12) (h0 : own ≠ []) (s : Int) : scrub_next c own s = some (nextN c own s) ∧ nextN c own s ∈ own := by
 obtain ⟨r, e, hr⟩ := t_next hc h h0 s
 have : nextN c own s = r := by unfold nextN; rw [e]; rfl
 rw [this]; exact ⟨e, hr⟩
theorem intact_len {D : List api_Disk} {c : api_Chain} (hc : ChainOk c) : (intactN D c).length ≤ 12 := Nat.le_trans (List.length_filter_le _ _) hc.n
def d0 : api_Disk := ⟨[], [], false⟩
noncomputable def fromN (D : List api_Disk) (c : api_Chain) (s : Int) : Int := nextN c (intactN D c) s
noncomputable def jobOf (D : List api_Disk) (c : api_Chain) (f : api_Find) : api_Job :=
 ⟨c.Id, c.Ver, fromN D c f.Server, f.Server, ((intactN D c).length : Int), (((getN (D.getD (fromN D c f.Server).toNat d0) c.Id).1.Data.length : Int) + 1)⟩
noncomputable def jobsN (D : List api_Disk) (c : api_Chain) : List api_Job := ((sLook D c).filter fun f => f.What != 1).map (jobOf D c)
open Classical in
noncomputable def planJ (D : List api_Disk) (l : List api_Chain) : List api_Job := l.flatMap fun c => if intactN D c = [] then [] else jobsN D c
noncomputable def planL (D : List api_Disk) (l : List api_Chain) : List Int := (l.filter fun c => (intactN D c).isEmpty).map (·.Id)
theorem jobs_len {D : List api_Disk} {c : api_Chain} (hc : ChainOk c) : (jobsN D c).length ≤ 12 := by
 unfold jobsN; rw [List.length_map]
 exact Nat.le_trans (List.length_filter_le _ _) (by rw [(sLook_perm D c).length_eq]; exact look_len hc)
theorem p_PlanIn {D : List api_Disk} (hD : Small D) {c : api_Chain} (hc : ChainOk c) (hne : intactN D c ≠ []) (s1 : Int × List api_Job × List Int) (acc : List api_Job) (hacc : acc.length ≤ 1000) :
  scrub_Plan_L2 (sLook D c) c (intactN D c) D s1 (0, acc) = some (acc ++ jobsN D c, s1.2.2) := by
 refine Tot.eq ?_
 unfold scrub_Plan_L2
 have hl : (sLook D c).length ≤ 12 := by rw [(sLook_perm D c).length_eq]; exact look_len hc
 refine Tot.each (l := sLook D c) (fun n a => a = acc ++ (((sLook D c).take n).filter fun f => f.What != 1).map (jobOf D c)) (fun n f a hlt hf ha => ?_) (fun a ha => ?_) acc (by simp)
 ·subst ha
  unfold scrub_Plan_B2
  refine Tot.cond (by simp; omega) (Tot.bind (R := (· = acc ++ (((sLook D c).take (n + 1)).filter fun f => f.What != 1).map (jobOf D c))) (Tot.bindeq (idx_some hf) ?_) fun r hr => Tot.chk (by unfold InI64; dsimp only; omega) (Tot.ret ⟨rfl, hr⟩))
  rw [take_snoc hf, filter_snoc]
  refine Tot.ite (fun h => ?_) fun h => Tot.ret (by rw [if_neg (by simpa using h)])
  rw [if_pos (by simpa using h)]
  obtain ⟨hn1, hn2⟩ := p_next hc (intact_len hc) hne f.Server
  have hi := mem_intact.1 hn2
  obtain ⟨d, hd, hd1, hd2, hd3⟩ := stands_intact.1 hi.2
  have h0 := hc.p _ hi.1
  have hidx : idx D (nextN c (intactN D c) f.Server) = some d := by unfold idx; rw [if_pos h0, hd]
  have hds := hD.2 d (List.mem_of_getElem? hd)
  have hgd : D.getD (fromN D c f.Server).toNat d0 = d := by unfold fromN; rw [List.getD_eq_getElem?_getD, hd]; rfl
  have hsz := (getN_spec hds c.Id).2.1.1
  have hf1 := List.length_filter_le (fun f : api_Find => f.What != 1) ((sLook D c).take n)
  have hf2 := List.length_take_le n (sLook D c)
  refine Tot.bindeq hn1 (Tot.bindeq hidx (Tot.bindeq (p_GetN hds c.Id) (Tot.chk (by unfold InI64; omega) (Tot.chk (by simp only [List.length_cons, List.length_nil, List.length_append, List.length_map]; omega) (Tot.ret ?_)))))
  rw [List.map_append, List.append_assoc]
  refine congrArg (fun x => acc ++ (_ ++ [x])) ?_
  unfold jobOf
  rw [hgd]; rfl
 ·subst ha
  unfold scrub_Plan_B2
  exact Tot.ncond (by simp) (Tot.out (Tot.ret (by rw [List.take_length]; rfl)))
theorem p_Plan {D : List api_Disk} (hD : Small D) {l : List api_Chain} (hl : l.length ≤ 12) (hc : ∀ c, c ∈ l → ChainOk c) : scrub_Plan D l = some (planJ D l, planL D l) := by
 refine Tot.eq ?_
 unfold scrub_Plan
 refine Tot.bind (R := (· = (planJ D l, planL D l))) ?_ fun r hr => Tot.ret (by rw [hr])
 unfold scrub_Plan_L1
 refine Tot.each (l := l) (fun n a => a = (planJ D (l.take n), planL D (l.take n)) ∧ a.1.length ≤ 12 * n ∧ a.2.length ≤ n) (fun n c a hlt hx ha => ?_) (fun a ha => ?_) ([], []) ⟨rfl, by simp, by simp⟩
 ·obtain ⟨rfl, h1, h2⟩ := ha
  replace h1 : (planJ D (l.take n)).length ≤ 12 * n := h1
  replace h2 : (planL D (l.take n)).length ≤ n := h2
  have hco := hc c (List.mem_of_getElem? hx)
  have hj := jobs_len (D := D) hco
  have e1 : planJ D (l.take (n + 1)) = planJ D (l.take n) ++ (if intactN D c = [] then [] else jobsN D c) := by
   unfold planJ; rw [take_snoc hx, List.flatMap_append]; simp
  have e2 : planL D (l.take (n + 1)) = planL D (l.take n) ++ (if intactN D c = [] then [c.Id] else []) := by
   unfold planL; rw [take_snoc hx, filter_snoc]
   by_cases h : intactN D c = []
   ·rw [if_pos (by simp [h]), if_pos h]; simp
   ·rw [if_neg (by simp [h]), if_neg h]; simp
  unfold scrub_Plan_B1
  refine Tot.cond (by simp; omega) (Tot.bind (R := fun v => v = (planJ D (l.take (n + 1)), planL D (l.take (n + 1))) ∧ v.1.length ≤ 12 * (n + 1) ∧ v.2.length ≤ n + 1) (Tot.bindeq (idx_some hx) (Tot.bindeq (p_Intact hD hco) (Tot.ite (fun h => ?_) fun h => ?_))) fun v hv => Tot.chk (by unfold InI64; dsimp only; omega) (Tot.ret ⟨rfl, hv⟩))
  ·have h0 : intactN D c = [] := by simpa using h
   refine Tot.chk (by simp only [List.length_cons, List.length_nil]; (try dsimp only); omega) (Tot.ret ⟨?_, by (try dsimp only at *); omega, by (try dsimp only at *); rw [List.length_append]; simp only [List.length_cons, List.length_nil]; omega⟩)
   rw [e1, e2, if_pos h0, if_pos h0, List.append_nil]
  ·have h0 : intactN D c ≠ [] := fun e => h (by simp [e])
   refine Tot.bindeq (p_Look hD hco) (Tot.bindeq (sortF_eq plan_cmp (by have := look_len (D := D) hco; omega)) ?_)
   refine Tot.mono (Tot.of (p_PlanIn hD hco h0 _ _ (by (try dsimp only at *); omega))) fun v hv => ?_
   subst hv
   refine ⟨?_, by (try dsimp only at *); rw [List.length_append]; omega, by (try dsimp only at *); omega⟩
   rw [e1, e2, if_neg h0, if_neg h0, List.append_nil]
 ·obtain ⟨rfl, _⟩ := ha
  unfold scrub_Plan_B1
  exact Tot.ncond (by simp) (Tot.out (Tot.ret (by rw [List.take_length])))
end Go.Proofs
