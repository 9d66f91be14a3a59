/- Mending, plain: what a round does. No condition. -/
import Derived.Test.YtcbpphgndncebabGreatXMendWholeP280F
namespace Go.Proofs
set_option linter.all false
open Go Go.Cat
set_option linter.all false
theorem do_md {D : List api_Disk} {ch : List api_Chain} {n0 : Nat} (hF : FitL D n0) (hR : RightL ch) (J : List api_Job) (hJ : ∀ k, k ∈ J → JobIn D ch k) (hp : J.Pairwise fun a b => ¬ AlikeJ a b) (hlen : n0 + J.length ≤ 400) : Md n0 D J (doN D J).1 := by
 induction J using rev_ind with
 | h0 => exact ⟨rfl, by simpa [doN] using hF, fun s d e h1 h2 => by have h2 : D[s]? = some e := h2; rw [h1] at h2; cases h2; rfl, fun s e _ k hk => by simp at hk, fun s d e h1 h2 _ _ => by have h2 : D[s]? = some e := h2; rw [h1] at h2; cases h2; rfl⟩
 | h1 l x ih =>
  rw [List.pairwise_append] at hp
  rw [List.length_append, List.length_singleton] at hlen
  have h := ih (fun k hk => hJ k (List.mem_append_left _ hk)) hp.1 (by omega)
  obtain ⟨hz, hm⟩ := md_step hF hR (fun k hk => hJ k (List.mem_append_left _ hk)) (hJ x (by simp)) (fun k hk e1 e2 => hp.2.2 k hk x (by simp) ⟨e2, e1⟩) (by omega) h
  rw [do_snoc]
  unfold doS
  rw [if_pos hz]
  exact hm
section
variable {n0 : Nat} {D a : List api_Disk} {l : List api_Chain} {J : List api_Job}
theorem md_part (hF : FitL D n0) (hR : RightL l) (hJ : ∀ j, j ∈ J → JobIn D l j) (hlen : n0 + J.length ≤ 400) (h : Md n0 D J a) {c : api_Chain} (hc : c ∈ l) {s : Int} (hs : s ∈ c.Servers) :
  ((∃ j, j ∈ J ∧ j.Id = c.Id ∧ j.To = s) → standsN a c s = 0) ∧ ((∀ j, j ∈ J → ¬ (j.Id = c.Id ∧ j.To = s)) → standsN a c s = standsN D c s) := by
 have hD := hF.small (by omega)
 have haS := h.fit.small (by omega)
 have hco := hR.oks c hc
 have h0 := hco.p s hs
 refine ⟨fun ⟨j, hj, e1, e2⟩ => ?_, fun hno => stands_same hD haS h.len fun d e h1 h2 => ⟨h.down _ _ _ h1 h2, h.kept _ _ _ h1 h2 c.Id fun j hj hjt hji => hno j hj ⟨hji, by omega⟩⟩⟩
 obtain ⟨c', hc', k1, k2, k3, k4, k5, k6⟩ := (hJ j hj).ex
 have : c' = c := hR.uniqId hc' hc (by omega)
 subst this
 obtain ⟨hfs, hf0⟩ := mem_intact.1 k4
 obtain ⟨g1, g2, g3, g4⟩ := intact_get (hco.p _ hfs) hf0
 rw [e2] at k6
 obtain ⟨t1, t2⟩ := stands_up h0 k6
 have hta : isS a s := ⟨t1.1, by rw [h.len]; exact t1.2⟩
 have hat := at_get hta
 have hmv := h.moved _ _ hat j hj (by omega)
 rw [e1] at hmv
 have hg := getN_congr (haS.2 _ (at_mem hta)) (hD.2 _ (at_mem g1)) hmv
 rw [stands_intact]
 exact ⟨_, hat, by rw [h.down _ _ _ (at_get t1) hat]; exact t2, by rw [hg]; exact g3, by rw [hg]; exact g4⟩
end
theorem plan_may {D : List api_Disk} (hD : Small D) {l : List api_Chain} (hR : RightL l) {j : api_Job} (h : j ∈ planJ D l) : MayJ j := by
 obtain ⟨c, hc, hne, hj⟩ := mem_plan.1 h
 have hco := hR.oks c hc
 have hr := hR.mem hc
 have hok := job_ok hD hco hne hj
 obtain ⟨c', hc', k1, k2, k3, k4, k5, k6⟩ := (job_in hD hR h).ex
 have : c' = c := hR.uniqId hc' hc (by rw [← k1, hok.id])
 subst this
 obtain ⟨hfs, hf0⟩ := mem_intact.1 k4
 obtain ⟨g1, _⟩ := intact_get (hco.p _ hfs) hf0
 obtain ⟨t1, _⟩ := stands_up (hco.p _ k3) k6
 have hDl := hD.1
 have hil : (intactN D c').length ≤ 5 := Nat.le_trans (List.length_filter_le _ _) hr.2.2.1
 have hip : 0 < (intactN D c').length := List.length_pos_iff.2 hne
 have b1 := hr.1; have b2 := hr.2.1; have b3 := hok.have_; have b4 := hok.left1; have b5 := hok.left2
 have b6 := g1.1; have b7 := g1.2; have b8 := t1.1; have b9 := t1.2
 unfold MayJ
 refine ⟨by omega, by omega, by omega, by omega, fun e => ?_, by omega, by omega⟩
 rw [e, ] at hf0; exact k5 hf0
theorem plan_ok {D : List api_Disk} (hD : Small D) {l : List api_Chain} (hR : RightL l) : FOk (planJ D l) := ⟨fun j hj => plan_may hD hR hj, (plan_sorted hR).imp fun {a b} h hh => by unfold AlikeJ at hh; omega⟩
theorem ord_perm {D : List api_Disk} (hD : Small D) {l : List api_Chain} (hl : l.length ≤ 12) (hR : RightL l) : (ordN (planJ D l)).Perm (planJ D l) := by
 have := plan_60 (D := D) hR hl
 have h := (p_Order (l := planJ D l) (by omega)).2.1
 rwa [filtJ_id _ (plan_ok hD hR)] at h
def sumW (w : api_Job → Int) (l : List api_Job) : Int := (l.map w).sum
theorem sumW_cons (w : api_Job → Int) (j : api_Job) (l : List api_Job) : sumW w (j :: l) = w j + sumW w l := by simp [sumW]
theorem sumW_app (w : api_Job → Int) (a b : List api_Job) : sumW w (a ++ b) = sumW w a + sumW w b := by simp [sumW]
theorem sumW_nonneg {w : api_Job → Int} : ∀ {l : List api_Job}, (∀ x, x ∈ l → 0 ≤ w x) → 0 ≤ sumW w l
 | [], _ => by simp [sumW]
 | x :: l, h => by
  have h1 := h x (List.mem_cons_self ..)
  have h2 := sumW_nonneg (l := l) fun y hy => h y (List.mem_cons_of_mem _ hy)
  rw [sumW_cons]; omega
theorem sum_le {v w : api_Job → Int} : ∀ {p l : List api_Job}, p.Pairwise (fun a b => ¬ AlikeJ a b) → (∀ x, x ∈ l → 0 ≤ w x) → (∀ j, j ∈ p → ∃ x, x ∈ l ∧ AlikeJ x j ∧ v j ≤ w x) → sumW v p ≤ sumW w l
 | [], l, _, hw, _ => by simpa [sumW] using sumW_nonneg hw
 | j :: p, l, hp, hw, h => by
  rw [List.pairwise_cons] at hp
  obtain ⟨x, hx, ha, hv⟩ := h j (List.mem_cons_self ..)
  obtain ⟨l1, l2, rfl⟩ := List.append_of_mem hx
  have ih := sum_le (v := v) (w := w) (p := p) (l := l1 ++ l2) hp.2 (fun y hy => hw y (by
   rcases List.mem_append.1 hy with h | h
   ·exact List.mem_append_left _ h
   ·exact List.mem_append_right _ (List.mem_cons_of_mem _ h))) fun k hk => by
    obtain ⟨y, hy, hya, hyv⟩ := h k (List.mem_cons_of_mem _ hk)
    refine ⟨y, ?_, hya, hyv⟩
    rcases List.mem_append.1 hy with h | h
    ·exact List.mem_append_left _ h
    ·rcases List.mem_cons.1 h with e | h
     ·subst e
      exact (hp.1 k hk ⟨by have := ha.1; have := hya.1; omega, by have := ha.2; have := hya.2; omega⟩).elim
     ·exact List.mem_append_right _ h
  rw [sumW_cons]
  rw [sumW_app, sumW_cons]
  rw [sumW_app] at ih
  omega
theorem totJ_sum (l : List api_Job) : totJ l = sumW (·.Left) l := rfl
theorem len_sum (l : List api_Job) : (l.length : Int) = sumW (fun _ => 1) l := by
 induction l with
 | nil => rfl
 | cons x l ih => rw [sumW_cons, ← ih]; simp only [List.length_cons]; omega
theorem totJ_ren (l p : List api_Job) : totJ (renL l p) = sumW (renV l) p := by
 unfold totJ renL sumW
 rw [List.map_map]; rfl
end Go.Proofs
