/- Mending, plain: jobs done, rounds. No condition. -/
import Derived.Test.YtcbpphgndncebabGreatXMendWholeP280E
import Derived.Test.YtcbpphgndncebabGreatXMendWholeP280v
import Derived.Test.YtcbpphgndncebabGreatXMendWholeP280u
import Derived.Test.YtcbpphgndncebabGreatXMendWholeIn
namespace Go.Proofs
set_option linter.all false
open Go Go.Cat
set_option linter.all false
noncomputable def doS (s : List api_Disk × List api_Job) (j : api_Job) : List api_Disk × List api_Job := if (copyN s.1 j).2 = 0 then ((copyN s.1 j).1, s.2 ++ [j]) else s
noncomputable def doN (D : List api_Disk) (J : List api_Job) : List api_Disk × List api_Job := J.foldl doS (D, [])
theorem do_snoc (D : List api_Disk) (J : List api_Job) (j : api_Job) : doN D (J ++ [j]) = doS (doN D J) j := by simp [doN]
theorem do_fit {D : List api_Disk} {n : Nat} (hD : FitL D n) (J : List api_Job) : FitL (doN D J).1 (n + J.length) ∧ (doN D J).2.length ≤ J.length := by
 induction J using rev_ind with
 | h0 => exact ⟨by simpa [doN] using hD, by simp [doN]⟩
 | h1 l x ih =>
  rw [do_snoc]
  unfold doS
  split
  ·refine ⟨?_, by simp; omega⟩
   have := copy_fit ih.1 x
   rw [List.length_append, List.length_singleton, ← Nat.add_assoc]; exact this
  ·exact ⟨ih.1.mono (by simp only [List.length_append, List.length_singleton]; omega), by simp only [List.length_append, List.length_singleton]; omega⟩
theorem p_Do {D : List api_Disk} {n : Nat} (hD : FitL D n) (J : List api_Job) (hn : n + J.length ≤ 400) : mend_Do D J = some (doN D J) := by
 refine Tot.eq ?_
 unfold mend_Do
 refine Tot.bind (R := (· = doN D J)) ?_ fun r hr => Tot.ret (by rw [hr])
 unfold mend_Do_L1
 refine Tot.loop (fun s : List api_Disk × Int × List api_Job => ∃ k : Nat, k ≤ J.length ∧ s = ((doN D (J.take k)).1, (k : Int), (doN D (J.take k)).2)) (fun s => J.length + 1 - s.2.1.toNat) ?_ _ ⟨0, Nat.zero_le _, rfl⟩
 rintro _ ⟨k, hk, rfl⟩
 unfold mend_Do_B1
 obtain ⟨hf, hl⟩ := do_fit hD (J.take k)
 have htl := List.length_take_le k J
 rcases Nat.lt_or_ge k J.length with hlt | hge
 ·have hx : J[k]? = some J[k] := List.getElem?_eq_getElem hlt
  refine Tot.cond (by simp; omega) (Tot.bind (R := (· = doN D (J.take (k + 1)))) (Tot.bindeq (idx_some hx) (Tot.bindeq (p_Copy (hf.mono (m := 399) (by omega)) (by omega) _) ?_)) fun v hv => Tot.chk (by unfold InI64; dsimp only; omega) (Tot.inl ⟨⟨k + 1, hlt, by rw [hv]; rfl⟩, by dsimp only; omega⟩))
  rw [take_snoc hx, do_snoc]
  unfold doS
  refine Tot.ite (fun h => Tot.chk (by simp only [List.length_cons, List.length_nil]; omega) (Tot.ret (by rw [if_pos (by simpa using h)]))) fun h => Tot.ret (by rw [if_neg (by simpa using h)])
 ·obtain rfl : k = J.length := by omega
  refine Tot.ncond (by simp) (Tot.out (Tot.ret (by rw [List.take_length])))
noncomputable def ordN (l : List api_Job) : List api_Job := (mend_Order l).getD []
theorem p_Order {l : List api_Job} (hl : l.length ≤ 100000) : mend_Order l = some (ordN l) ∧ (ordN l).Perm (filtJ l) ∧ Qu (ordN l) := by
 obtain ⟨r, e, hr⟩ := t_Order l hl
 have : ordN l = r := by unfold ordN; rw [e]; rfl
 rw [this]; exact ⟨e, hr⟩
theorem ordN_len {l : List api_Job} (hl : l.length ≤ 100000) : (ordN l).length ≤ l.length := by
 have := (p_Order hl).2.1.length_eq; have := (filtJ_ok l).2; omega
noncomputable def stpN (D : List api_Disk) (ch : List api_Chain) (l : List api_Job) (b : Int) : List api_Job × List api_Job := stepL b (renL l (ordN (planJ D ch)))
noncomputable def rndN (D : List api_Disk) (ch : List api_Chain) (l : List api_Job) (b : Int) : List api_Disk × List api_Job × List api_Job := ((doN D (stpN D ch l b).2).1, (stpN D ch l b).1, (doN D (stpN D ch l b).2).2)
theorem plan_60 {D : List api_Disk} {ch : List api_Chain} (hR : RightL ch) (hl : ch.length ≤ 12) : (planJ D ch).length ≤ 60 := by
 have := plan_len (D := D) (l := ch) fun c hc => (hR.mem hc).2.2.1
 omega
theorem stp_len {D : List api_Disk} {ch : List api_Chain} (hR : RightL ch) (hl : ch.length ≤ 12) (l : List api_Job) (b : Int) : (stpN D ch l b).1.length + (stpN D ch l b).2.length ≤ 60 := by
 have h1 := plan_60 (D := D) hR hl
 have h2 := ordN_len (l := planJ D ch) (by omega)
 have h3 := step_len b (renL l (ordN (planJ D ch)))
 unfold stpN
 rw [h3]; unfold renL; rw [List.length_map]; omega
section
variable {D : List api_Disk} {n : Nat} {ch : List api_Chain} {l : List api_Job} {b : Int}
theorem p_Round (hD : FitL D n) (hn : n ≤ 300) (hR : RightL ch) (hl : ch.length ≤ 12) (hp : posL l) (hll : l.length ≤ 100000) (hb : InI64 b) : mend_Round D ch l b = some (rndN D ch l b) := by
 refine Tot.eq ?_
 have h1 := plan_60 (D := D) hR hl
 obtain ⟨e1, _, hq⟩ := p_Order (l := planJ D ch) (by omega)
 have h2 := ordN_len (l := planJ D ch) (by omega)
 have h4 := stp_len (D := D) hR hl l b
 have hrl : (renL l (ordN (planJ D ch))).length ≤ 60 := by unfold renL; rw [List.length_map]; omega
 unfold mend_Round
 refine Tot.bindeq (p_Plan (hD.small (by omega)) hl hR.oks) (Tot.bindeq e1 (Tot.bind (t_Renew l _ hll (by omega)) fun v hv => ?_))
 subst hv
 refine Tot.bind (t_Step _ b (Qu_posL (renL_Qu hp hq)) (by omega) hb) fun v hv => ?_
 subst hv
 exact Tot.bindeq (p_Do hD (stpN D ch l b).2 (by omega)) (Tot.ret rfl)
end
end Go.Proofs
