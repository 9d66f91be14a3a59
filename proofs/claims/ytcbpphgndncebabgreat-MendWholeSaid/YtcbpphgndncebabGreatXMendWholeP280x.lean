/- Scrubbing, plain: what the document plans. No condition. -/
import Derived.Test.YtcbpphgndncebabGreatXMendWholeP280w
import Derived.Test.YtcbpphgndncebabGreatXMendWholeP280q
import Derived.Test.YtcbpphgndncebabGreatXMendWholeP280t
namespace Go.Proofs
set_option linter.all false
open Go Go.Cat
set_option linter.all false
theorem r_stands {D : List api_Disk} {n : Nat} (hF : FitL D n) (hn : n ≤ 400) (c : api_Chain) {s : Int} (h0 : 0 ≤ s) : ref27_Stands D c s = some (standsN D c s) := by
 refine Tot.eq ?_
 have hD := hF.small (by omega)
 unfold ref27_Stands
 rcases Nat.lt_or_ge s.toNat D.length with hlt | hge
 ·have hx : D[s.toNat]? = some D[s.toNat] := List.getElem?_eq_getElem hlt
  have hd := hD.2 _ (List.getElem_mem hlt)
  have hu := (hF.d _ (List.getElem_mem hlt)).uniq
  have hi : idx D s = some D[s.toNat] := by unfold idx; rw [if_pos h0, hx]
  have hst : standsN D c s = standD D[s.toNat] c := by unfold standsN; rw [hx]
  rw [hst]
  generalize D[s.toNat] = d at *
  refine Tot.bb (c := d.Down) (by rw [if_neg (by simp; omega), hi]; rfl) ?_
  unfold standD
  refine Tot.ite (fun h => Tot.ret (by rw [if_pos h])) fun h => ?_
  rw [if_neg h]
  refine Tot.bindeq hi (Tot.bindeq (r_GetN hd hu c.Id) ?_)
  refine Tot.ite (fun h => ?_) fun h => ?_
  ·have h' : (getN d c.Id).2 = 41 := by simpa using h
   exact Tot.ret (by rw [if_pos h'])
  have h' : ¬ (getN d c.Id).2 = 41 := by simpa using h
  rw [if_neg h']
  refine Tot.ite (fun h => ?_) fun h => ?_
  ·have h' : (getN d c.Id).2 ≠ 0 := by simpa using h
   exact Tot.ret (by rw [if_pos h'])
  have h' : ¬ (getN d c.Id).2 ≠ 0 := by simpa using h
  rw [if_neg h']
  refine Tot.ite (fun h => ?_) fun h => ?_
  ·exact Tot.ret (by rw [if_pos (of_decide_eq_true h)])
  rw [if_neg (fun e => h (decide_eq_true e))]
  refine Tot.ite (fun h => ?_) fun h => ?_
  ·exact Tot.ret (by rw [if_pos (of_decide_eq_true h)])
  rw [if_neg (fun e => h (decide_eq_true e))]
  exact Tot.ret rfl
 ·refine Tot.bb (c := true) (by rw [if_pos (by simp; omega)]) (Tot.cond rfl (Tot.ret ?_))
  unfold standsN
  rw [List.getElem?_eq_none hge]
theorem r_Intact {D : List api_Disk} {m : Nat} (hF : FitL D m) (hm : m ≤ 400) {c : api_Chain} (hc : ChainOk c) : ref27_Intact D c = some (intactN D c) := by
 refine Tot.eq ?_
 unfold ref27_Intact
 refine Tot.bind (R := (· = intactN D c)) ?_ fun r hr => Tot.ret hr
 unfold ref27_Intact_L1
 have hlen := hc.n
 refine Tot.each (l := c.Servers) (fun n a => a = (c.Servers.take n).filter fun s => standsN D c s == 0) (fun n x a hlt hx ha => ?_) (fun a ha => ?_) [] rfl
 ·subst ha
  unfold ref27_Intact_B1
  refine Tot.cond (by simp; omega) (Tot.bind (R := (· = (c.Servers.take (n + 1)).filter fun s => standsN D c s == 0)) (Tot.bindeq (idx_some hx) (Tot.bindeq (r_stands hF hm c (hc.p x (List.mem_of_getElem? hx))) ?_)) fun r hr => Tot.chk (by unfold InI64; dsimp only; omega) (Tot.ret ⟨rfl, hr⟩))
  rw [take_snoc hx, filter_snoc]
  have hf := List.length_filter_le (fun s => standsN D c s == 0) (c.Servers.take n)
  have ht := List.length_take_le n c.Servers
  refine Tot.ite (fun h => Tot.bindeq (idx_some hx) (Tot.chk (by simp only [List.length_cons, List.length_nil]; omega) (Tot.ret (by rw [if_pos (by simpa using h)])))) fun h => Tot.ret (by rw [if_neg (by simpa using h)])
 ·subst ha
  unfold ref27_Intact_B1
  exact Tot.ncond (by simp) (Tot.out (Tot.ret (by rw [List.take_length]; rfl)))
def ixN (l : List Int) (x : Int) : Int := match l.findIdx? (fun y => x == y) with | some n => (n : Int) | none => -1
noncomputable def fromM (c : api_Chain) (own : List Int) (s : Int) : Int := (own.find? fun y => decide (ixN c.Servers y > ixN c.Servers s)).getD (own.getLastD (-1))
end Go.Proofs
