/- Jobs, plain: the document's examples; the laws. No condition. -/
import Derived.Test.YtcbpphgndncebabGreatXMendWholeP280C
namespace Go.Proofs
set_option linter.all false
open Go Go.Cat
theorem p_job (a b c d : Int) : law28_job a b c d = some ⟨b, 0, 9, c, a, d⟩ := rfl
abbrev jA : api_Job := ⟨1, 0, 9, 0, 2, 5⟩
abbrev jB : api_Job := ⟨4, 0, 9, 3, 1, 4⟩
abbrev jC : api_Job := ⟨4, 0, 9, 3, 1, 2⟩
abbrev jD : api_Job := ⟨2, 0, 9, 2, 0, 2⟩
theorem filt0 : filtJ [jA, jB, jC, jD] = [jA, jB] := by
 have n1 : keepJ [] jA = [jA] := by unfold keepJ; rw [if_pos ⟨by decide, fun ⟨_, h, _⟩ => by cases h⟩]; rfl
 have n2 : keepJ [jA] jB = [jA, jB] := by
  unfold keepJ; rw [if_pos ⟨by decide, fun ⟨y, h, g⟩ => by rw [List.mem_singleton.1 h] at g; revert g; decide⟩]; rfl
 have n3 : keepJ [jA, jB] jC = [jA, jB] := by
  unfold keepJ; rw [if_neg fun h => h.2 ⟨jB, by simp, by decide⟩]
 have n4 : keepJ [jA, jB] jD = [jA, jB] := by
  unfold keepJ; rw [if_neg fun h => absurd h.1 (by decide)]
 show keepJ (keepJ (keepJ (keepJ [] jA) jB) jC) jD = _
 rw [n1, n2, n3, n4]
theorem pw2 {R : api_Job → api_Job → Prop} {a b : api_Job} (h : R a b) : [a, b].Pairwise R := List.pairwise_cons.2 ⟨fun x hx => by rw [List.mem_singleton.1 hx]; exact h, List.pairwise_singleton _ _⟩
theorem quBA : Qu [jB, jA] := ⟨fun j hj => by
  rcases List.mem_cons.1 hj with e | hj
  ·rw [e]; decide
  ·rw [List.mem_singleton.1 hj]; decide, pw2 (by unfold AheadJ; decide), pw2 (by decide)⟩
theorem t_true {α : Type} {x y : α} {o : Option Bool} (h : Tot o (Tells (x = y))) (e : x = y) : Tot (o.bind fun b => some b) (Tells True) := Tot.bind h fun _ h => Tot.ret (h.iff (iff_true_intro e))
theorem p_head28 : law28_head = some true := by
 refine Tot.eq (Tot.mono (Q := Tells True) ?_ fun b h => h.2 trivial)
 unfold law28_head
 refine Tot.bindeq (p_job _ _ _ _) (Tot.bindeq (p_job _ _ _ _) (Tot.bindeq (p_job _ _ _ _) (Tot.bindeq (p_job _ _ _ _) (Tot.bind (t_Order [jA, jB, jC, jD] (by decide)) fun r hr => ?_))))
 have er : r = [jB, jA] := order_uniq hr ⟨by rw [filt0]; exact List.Perm.swap _ _ _, quBA⟩
 subst er
 have hp := Qu_posL quBA
 refine Tot.bind (t_Step _ 6 hp (by decide) (by decide)) fun v hv => Tot.bindeq (p_job _ _ _ _) (Tot.bind (t_Renew [jC] [jB, jA] (by decide) (by decide)) fun w hw => ?_)
 have ev : stepL 6 [jB, jA] = ([⟨1, 0, 9, 0, 2, 3⟩], [⟨4, 0, 9, 3, 1, 0⟩]) := rfl
 have ew : renL [jC] [jB, jA] = [jC, jA] := rfl
 rw [ev] at hv
 rw [ew] at hw
 subst hv hw
 refine Tot.bind (R := Tells True) ?_ fun _ h => Tot.ret h
 refine Tot.bindeq (p_job _ _ _ _) (Tot.bindeq (p_job _ _ _ _) (Tot.bind (t_SameJ _ _ (by decide)) fun b0 h0 => ?_))
 refine Tot.bind (Tot.andI (Q := True) h0 fun _ => Tot.bindeq (p_job _ _ _ _) (t_true (t_SameJ _ _ (by decide)) rfl)) fun b1 h1 => ?_
 refine Tot.bind (Tot.andI (Q := True) h1 fun _ => Tot.bindeq (p_job _ _ _ _) (t_true (t_SameJ _ _ (by decide)) rfl)) fun b2 h2 => ?_
 refine Tot.bind (Tot.andI (Q := True) h2 fun _ => Tot.bind (t_Steps _ 4 hp (by decide) (by decide)) fun n hn => Tot.ret (by rw [hn]; exact Tells.yes trivial)) fun b3 h3 => ?_
 refine Tot.bind (Tot.andI (Q := True) h3 fun _ => Tot.bind (t_Steps _ 0 hp (by decide) (by decide)) fun n hn => Tot.ret (by rw [hn]; exact Tells.yes trivial)) fun b4 h4 => ?_
 refine Tot.bind (Tot.andI (Q := True) h4 fun _ => Tot.bind (t_Steps [] 0 (fun _ h => (by cases h)) (by decide) (by decide)) fun n hn => Tot.ret (by rw [hn]; exact Tells.yes trivial)) fun b5 h5 => ?_
 refine Tot.bind (Tot.andI (Q := True) h5 fun _ => Tot.bindeq (p_job _ _ _ _) (Tot.bindeq (p_job _ _ _ _) (t_true (t_SameJ _ _ (by decide)) rfl))) fun b6 h6 => ?_
 refine Tot.bind (Tot.andI (Q := True) h6 fun _ => Tot.bind (R := Tells (Qu [jB, jA])) (t_RightJ _ (by decide)) fun _ h => Tot.ret (h.iff (iff_true_intro quBA))) fun b7 h7 => ?_
 refine Tot.bind (Tot.andI (Q := True) h7 fun _ => Tot.bindeq (p_job _ _ _ _) (Tot.bindeq (p_job _ _ _ _) (Tot.bind (t_RightJ [jA, jB] (by decide)) fun _ h => Tot.ret (h.not.iff (iff_true_intro fun hq => ?_))))) fun b8 h8 => Tot.ret (h8.iff (by simp))
 have := (List.pairwise_cons.1 hq.2.1).1 jB (by simp)
 unfold AheadJ at this
 revert this; decide
end Go.Proofs
