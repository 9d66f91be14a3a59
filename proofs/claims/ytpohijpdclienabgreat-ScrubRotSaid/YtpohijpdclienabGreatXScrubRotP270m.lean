/- Scrubbing, plain: one server's copy; how servers stand; which are intact. No condition. -/
import Derived.Test.YtpohijpdclienabGreatXScrubRotP270l
import Derived.Test.YtpohijpdclienabGreatXScrubRotCatP1
namespace Go.Proofs
set_option linter.all false
open Go Go.Cat
set_option linter.all false
noncomputable def getN (d : api_Disk) (id : Int) : api_Copy × Int := (chunk_Get d id).getD (⟨0, 0, [], []⟩, 0)
section
variable {d d' : api_Disk}
theorem p_GetN (hd : smallD d) (id : Int) : chunk_Get d id = some (getN d id) := by
 obtain ⟨r, h, _⟩ := t_GetS d id hd
 unfold getN; rw [h]; rfl
theorem getN_spec (hd : smallD d) (id : Int) : (if (thereN d id).2 = 0 then (getN d id).2 = 0 ∨ (getN d id).2 = 251 else (getN d id).2 = (thereN d id).2) ∧ ((getN d id).1.Data.length ≤ 1000 ∧ (getN d id).1.Sums.length ≤ 1000) ∧
  ((getN d id).2 = 0 → mayP (getN d id).1 ∧ (getN d id).1.Id = id ∧ pageN (getN d id).1 = (thereN d id).1) ∧ ((getN d id).2 ≠ 0 → (getN d id).1 = ⟨0, 0, [], []⟩) := by
 obtain ⟨r, h, hr⟩ := t_GetS d id hd
 have : getN d id = r := by unfold getN; rw [h]; rfl
 rw [this]; exact hr
theorem getN_congr {o : Int} (hd : smallD d) (hd' : smallD d') (h : thereN d o = thereN d' o) : getN d o = getN d' o := by unfold getN; rw [Get_congr hd hd' h]
end
noncomputable def standD (d : api_Disk) (c : api_Chain) : Int :=
 if d.Down = true then 1 else if (getN d c.Id).2 = 41 then 2 else if (getN d c.Id).2 ≠ 0 then 3 else if (getN d c.Id).1.Ver < c.Ver then 4 else if (getN d c.Id).1.Ver > c.Ver then 5 else 0
noncomputable def standsN (D : List api_Disk) (c : api_Chain) (s : Int) : Int := match D[s.toNat]? with
 | none => 1
 | some d => standD d c
def Small (D : List api_Disk) : Prop := D.length ≤ 6 ∧ ∀ d, d ∈ D → smallD d
theorem p_stands {D : List api_Disk} (hD : Small D) (c : api_Chain) {s : Int} (h0 : 0 ≤ s) : scrub_stands D c s = some (standsN D c s) := by
 refine Tot.eq ?_
 unfold scrub_stands
 rcases Nat.lt_or_ge s.toNat D.length with hlt | hge
 ·have hx : D[s.toNat]? = some D[s.toNat] := List.getElem?_eq_getElem hlt
  have hd := hD.2 _ (List.getElem_mem hlt)
  have hi : idx D s = some D[s.toNat] := by unfold idx; rw [if_pos h0, hx]
  have hst : standsN D c s = standD D[s.toNat] c := by unfold standsN; rw [hx]
  rw [hst]
  generalize D[s.toNat] = d at *
  refine Tot.bb (c := d.Down) (by rw [if_neg (by simp; omega), hi]; rfl) ?_
  unfold standD
  refine Tot.ite (fun h => Tot.ret (by rw [if_pos h])) fun h => ?_
  rw [if_neg h]
  refine Tot.bindeq hi (Tot.bindeq (p_GetN hd c.Id) ?_)
  refine Tot.ite (fun h => ?_) fun h => ?_
  ·have h' : (getN d c.Id).2 = 41 := by simpa using h
   exact Tot.ret (by rw [if_pos h'])
  have h' : ¬ (getN d c.Id).2 = 41 := by simpa using h
  rw [if_neg h']
  refine Tot.ite (fun h => ?_) fun h => ?_
  ·have h' : (getN d c.Id).2 ≠ 0 := by simpa using h
   exact Tot.ret (by rw [if_pos h'])
  have h' : ¬ (getN d c.Id).2 ≠ 0 := by simpa using h
  rw [if_neg h']
  refine Tot.ite (fun h => ?_) fun h => ?_
  ·exact Tot.ret (by rw [if_pos (of_decide_eq_true h)])
  rw [if_neg (fun e => h (decide_eq_true e))]
  refine Tot.ite (fun h => ?_) fun h => ?_
  ·exact Tot.ret (by rw [if_pos (of_decide_eq_true h)])
  rw [if_neg (fun e => h (decide_eq_true e))]
  exact Tot.ret rfl
 ·refine Tot.bb (c := true) (by rw [if_pos (by simp; omega)]) (Tot.cond rfl (Tot.ret ?_))
  unfold standsN
  rw [List.getElem?_eq_none hge]
noncomputable def intactN (D : List api_Disk) (c : api_Chain) : List Int := c.Servers.filter fun s => standsN D c s == 0
noncomputable def findN (D : List api_Disk) (c : api_Chain) (s : Int) : api_Find := ⟨c.Id, s, standsN D c s⟩
noncomputable def lookN (D : List api_Disk) (c : api_Chain) : List api_Find := (c.Servers.filter fun s => standsN D c s != 0).map (findN D c)
structure ChainOk (c : api_Chain) : Prop where
 n : c.Servers.length ≤ 12
 p : ∀ s, s ∈ c.Servers → 0 ≤ s
theorem filter_snoc {α : Type} (p : α → Bool) (l : List α) (x : α) : (l ++ [x]).filter p = if p x = true then l.filter p ++ [x] else l.filter p := by
 rw [List.filter_append]
 cases h : p x <;> simp [h]
theorem p_Intact {D : List api_Disk} (hD : Small D) {c : api_Chain} (hc : ChainOk c) : scrub_Intact D c = some (intactN D c) := by
 refine Tot.eq ?_
 unfold scrub_Intact
 refine Tot.bindeq (a := ()) rfl (Tot.bind (R := (· = intactN D c)) ?_ fun r hr => Tot.ret hr)
 unfold scrub_all_1_2 scrub_all_1_2_L1
 have hlen := hc.n
 refine Tot.each (l := c.Servers) (fun n a => a = (c.Servers.take n).filter fun s => standsN D c s == 0) (fun n x a hlt hx ha => ?_) (fun a ha => ?_) [] rfl
 ·subst ha
  unfold scrub_all_1_2_B1
  refine Tot.cond (by simp; omega) (Tot.bindeq (idx_some hx) (Tot.bindeq (p_stands hD c (hc.p x (List.mem_of_getElem? hx))) (Tot.bind (R := (· = (c.Servers.take (n + 1)).filter fun s => standsN D c s == 0)) ?_ fun r hr => Tot.chk (by unfold InI64; dsimp only; omega) (Tot.ret ⟨rfl, hr⟩))))
  unfold scrub_Intact_R0_2
  rw [take_snoc hx, filter_snoc]
  have hf := List.length_filter_le (fun s => standsN D c s == 0) (c.Servers.take n)
  have ht := List.length_take_le n c.Servers
  refine Tot.ite (fun h => Tot.chk (by simp only [List.length_cons, List.length_nil]; omega) (Tot.ret (by rw [if_pos (by simpa using h)]))) fun h => Tot.ret (by rw [if_neg (by simpa using h)])
 ·subst ha
  unfold scrub_all_1_2_B1
  exact Tot.ncond (by simp) (Tot.out (Tot.ret (by rw [List.take_length]; rfl)))
theorem p_Look {D : List api_Disk} (hD : Small D) {c : api_Chain} (hc : ChainOk c) : scrub_Look D c = some (lookN D c) := by
 refine Tot.eq ?_
 unfold scrub_Look
 refine Tot.bindeq (a := ()) rfl (Tot.bind (R := (· = lookN D c)) ?_ fun r hr => Tot.ret hr)
 unfold scrub_all_1 scrub_all_1_L1
 have hlen := hc.n
 refine Tot.each (l := c.Servers) (fun n a => a = ((c.Servers.take n).filter fun s => standsN D c s != 0).map (findN D c)) (fun n x a hlt hx ha => ?_) (fun a ha => ?_) [] rfl
 ·subst ha
  unfold scrub_all_1_B1
  refine Tot.cond (by simp; omega) (Tot.bindeq (idx_some hx) (Tot.bindeq (p_stands hD c (hc.p x (List.mem_of_getElem? hx))) (Tot.bind (R := (· = ((c.Servers.take (n + 1)).filter fun s => standsN D c s != 0).map (findN D c))) ?_ fun r hr => Tot.chk (by unfold InI64; dsimp only; omega) (Tot.ret ⟨rfl, hr⟩))))
  unfold scrub_Look_R0_2
  rw [take_snoc hx, filter_snoc]
  have hf := List.length_filter_le (fun s => standsN D c s != 0) (c.Servers.take n)
  have ht := List.length_take_le n c.Servers
  refine Tot.ite (fun h => Tot.chk (by simp only [List.length_cons, List.length_nil, List.length_map]; omega) (Tot.ret (by rw [if_pos (by simpa using h), List.map_append]; rfl))) fun h => Tot.ret (by rw [if_neg (by simpa using h)])
 ·subst ha
  unfold scrub_all_1_B1
  exact Tot.ncond (by simp) (Tot.out (Tot.ret (by rw [List.take_length]; rfl)))
end Go.Proofs
