/- Scrubbing, plain: what is planned mends. No condition. -/
import Derived.Test.YtpohijpdclienaaGreatXScrubMendsP27u
namespace Go.Proofs
set_option linter.all false
open Go Go.Cat
set_option linter.all false
theorem plan_len {D : List api_Disk} : ∀ {l : List api_Chain}, (∀ c, c ∈ l → c.Servers.length ≤ 5) → (planJ D l).length ≤ 5 * l.length
 | [], _ => by simp [planJ]
 | c :: l, h => by
  have h1 := plan_len (D := D) (l := l) fun c hc => h c (List.mem_cons_of_mem _ hc)
  have h2 : (jobsN D c).length ≤ 5 := by
   unfold jobsN; rw [List.length_map]
   refine Nat.le_trans (List.length_filter_le _ _) ?_
   rw [(sLook_perm D c).length_eq]
   unfold lookN; rw [List.length_map]
   exact Nat.le_trans (List.length_filter_le _ _) (h c (List.mem_cons_self ..))
  unfold planJ at h1 ⊢
  rw [List.flatMap_cons, List.length_append, List.length_cons]
  have h3 : (if intactN D c = [] then [] else jobsN D c).length ≤ 5 := by
   split
   ·simp
   ·exact h2
  omega
theorem p_rev (x4 : List api_Job × List Int) (h : x4.1.length ≤ 1000) : law27_ScrubMends_L1 x4 ((x4.1.length : Int) - 1, []) = some x4.1.reverse := by
 refine Tot.eq ?_
 unfold law27_ScrubMends_L1
 refine Tot.loop (fun s : Int × List api_Job => ∃ n : Nat, n ≤ x4.1.length ∧ s = ((n : Int) - 1, (x4.1.drop n).reverse)) (fun s => (s.1 + 1).toNat) ?_ _ ⟨x4.1.length, Nat.le_refl _, by simp⟩
 rintro _ ⟨n, hn, rfl⟩
 unfold law27_ScrubMends_B1
 cases n with
 | zero => exact Tot.ncond (by simp) (Tot.out (Tot.ret (by simp)))
 | succ m =>
  have hm : x4.1[m]? = some x4.1[m] := List.getElem?_eq_getElem hn
  have e : ((m + 1 : Nat) : Int) - 1 = (m : Int) := by omega
  have hd : (x4.1.drop m).reverse = (x4.1.drop (m + 1)).reverse ++ [x4.1[m]] := by
   rw [List.drop_eq_getElem_cons (by omega), List.reverse_cons]
  rw [e]
  refine Tot.cond (by simp) (Tot.bindeq (idx_some hm) (Tot.chk (by simp only [List.length_cons, List.length_nil, List.length_reverse, List.length_drop]; omega) (Tot.chk (by unfold InI64; dsimp only; omega) (Tot.inl ⟨⟨m, by omega, ?_⟩, ?_⟩))))
  ·dsimp only; rw [hd]
  ·dsimp only; omega
theorem l_ScrubMends (D : List api_Disk) (l : List api_Chain) (hk : okL_c_api_Disk D) (hk2 : okL_c_api_Chain l) : law27_ScrubMends D l = some true := by
 refine Tot.eq ?_
 unfold law27_ScrubMends
 refine Tot.bindeq p_head27 (Tot.bind (R := fun b => b = false → GreatD D ∧ l.length ≤ 12 ∧ RightL l) ?_ fun b hb => Tot.ite (fun _ => Tot.ret rfl) fun h => ?_)
 ·have := t_start D l
  rw [show (((law27_Great D l).bind fun x2 => (if x2 then some true else (ref27_Right l).bind fun x3 => some ((!x3))).bind fun c1 => some c1)) = ((law27_Great D l).bind fun x2 => (if x2 then some true else (ref27_Right l).bind fun x3 => some ((!x3)))) by simp only [Option.bind_fun_some]]
  exact this
 obtain ⟨hG, hl, hR⟩ := hb (by simpa using h)
 have hF := fit_of hG hk
 have hD := hF.small (by omega)
 have hco := hR.oks
 have hDl := hF.len
 have hJl := plan_len (D := D) (l := l) fun c hc => (hR.mem hc).2.2.1
 have hpw : (planJ D l).Pairwise fun a b => ¬ (a.To = b.To ∧ a.Id = b.Id) := (plan_sorted hR).imp fun {a b} h => by omega
 have hpwr : (planJ D l).reverse.Pairwise fun a b => ¬ (a.To = b.To ∧ a.Id = b.Id) := by
  rw [List.pairwise_reverse]; exact hpw.imp fun {a b} h h' => h ⟨h'.1.symm, h'.2.symm⟩
 have hll : (planL D l).length ≤ 12 := by
  unfold planL; rw [List.length_map]; exact Nat.le_trans (List.length_filter_le _ _) hl
 refine Tot.bindeq (p_Plan hD hl hco) (Tot.ncond (by simp; omega) (Tot.bindeq (a := (planJ D l).reverse) ?_ ?_))
 ·rw [chk_pos (by unfold InI64; dsimp only; omega)]; exact p_rev (planJ D l, planL D l) (by dsimp only; omega)
 refine Tot.bind (p_done hF hR (J := planJ D l) (fun k hk => job_in hD hR hk) hpw (by omega)) ?_
 rintro ⟨a, _⟩ ⟨rfl, ha⟩
 refine Tot.bind (p_done hF hR (J := (planJ D l).reverse) (fun k hk => job_in hD hR (List.mem_reverse.1 hk)) hpwr (by rw [List.length_reverse]; omega)) ?_
 rintro ⟨a', _⟩ ⟨rfl, ha'⟩
 dsimp only at ha ha'
 have haS := ha.fit.small (by omega)
 have haS' := ha'.fit.small (by rw [List.length_reverse]; omega)
 obtain ⟨q1, q2⟩ := md_plan hF hR (J := planJ D l) (fun _ => Iff.rfl) (by omega) ha
 obtain ⟨q3, q4⟩ := md_plan hF hR (J := (planJ D l).reverse) (fun _ => List.mem_reverse) (by rw [List.length_reverse]; omega) ha'
 refine Tot.bindeq (a := false) rfl (Tot.ncond (by simp) (Tot.bindeq (p_Plan haS hl hco) (Tot.bindeq (p_Plan haS' hl hco) ?_)))
 rw [q1, q2, q3, q4]
 have hself : ref02_Ints (planL D l) (planL D l) = some true := by
  obtain ⟨b, e, hb⟩ := p_RInts (planL D l) (planL D l) (by omega)
  rw [e, hb.2 rfl]
 refine Tot.bindeq (a := false) ?_ (Tot.ncond (by simp) ?_)
 ·rw [chk_pos (by unfold InI64; simp)]; simp [hself]
 unfold law27_ScrubMends_L2
 refine Tot.each0 (l := l) (fun _ => True) (fun n c hlt hc _ => ?_) (fun _ => ?_) trivial
 ·unfold law27_ScrubMends_B2
  have hcm := List.mem_of_getElem? hc
  have hcc := hco c hcm
  have hcn := hcc.n
  refine Tot.cond (by simp; omega) (Tot.bindeq (idx_some hc) (Tot.bindeq (p_Intact hD hcc) (Tot.ite (fun h => ?_) fun h => ?_)))
  ·unfold law27_ScrubMends_J2
   exact Tot.chk (by unfold InI64; omega) (Tot.inl ⟨rfl, trivial⟩)
  have hne : intactN D c ≠ [] := fun e => h (by simp [e])
  have hil := intact_len (D := D) hcc
  have hil2 := intact_len (D := a) hcc
  refine Tot.bindeq (idx_some hc) (Tot.bindeq (p_Intact haS hcc) ?_)
  unfold law27_ScrubMends_L3
  refine Tot.each0 (l := c.Servers) (fun _ => True) (fun m s hlt2 hs _ => ?_) (fun _ => ?_) trivial
  ·unfold law27_ScrubMends_B3
   have hsm := List.mem_of_getElem? hs
   have h0 := hcc.p s hsm
   refine Tot.bindeq (idx_some hc) (Tot.cond (by simp; omega) (Tot.bindeq (idx_some hc) (Tot.bindeq (idx_some hs) ?_)))
   have haway : (if decide (s ≥ (D.length : Int)) = true then some true else (idx D s).bind fun x13 => some x13.Down) = some (decide (standsN D c s = 1)) := by
    rcases Nat.lt_or_ge s.toNat D.length with h1 | h1
    ·have hd : D[s.toNat]? = some D[s.toNat] := List.getElem?_eq_getElem h1
     rw [if_neg (by simp; omega)]
     have : idx D s = some D[s.toNat] := by unfold idx; rw [if_pos h0, hd]
     rw [this, Option.bind_some]
     refine congrArg some ?_
     rw [Bool.eq_iff_iff, decide_eq_true_iff, stands_away, hd]; simp
    ·rw [if_pos (by simp; omega)]
     refine congrArg some (Eq.symm (decide_eq_true ?_))
     exact stands_away.2 (.inl (List.getElem?_eq_none h1))
   refine Tot.bindeq (a := decide (standsN D c s = 1)) (by rw [haway]; rfl) (Tot.ite (fun h => ?_) fun h => ?_)
   ·unfold law27_ScrubMends_J3
    exact Tot.chk (by unfold InI64; omega) (Tot.inl ⟨rfl, trivial⟩)
   have hs1 : standsN D c s ≠ 1 := by simpa using h
   have hst := (md_stands hF hR (J := planJ D l) (fun _ => Iff.rfl) (by omega) ha hcm hsm).2 hne
   rw [if_neg hs1] at hst
   refine Tot.bind (R := fun v => (v = s ∧ ∀ j, j ∈ planJ D l → ¬ (j.Id = c.Id ∧ j.To = s)) ∨ ∃ j, j ∈ planJ D l ∧ j.Id = c.Id ∧ j.To = s ∧ v = j.From) ?_ fun v hv => ?_
   ·unfold law27_ScrubMends_L4
    refine Tot.each' (l := planJ D l) (fun k v => (v = s ∧ ∀ j, j ∈ (planJ D l).take k → ¬ (j.Id = c.Id ∧ j.To = s)) ∨ ∃ j, j ∈ planJ D l ∧ j.Id = c.Id ∧ j.To = s ∧ v = j.From) (fun k j v hlt3 hj hv => ?_) (fun v hv => ?_) s (.inl ⟨rfl, by simp⟩)
    ·unfold law27_ScrubMends_B4
     refine Tot.cond (by simp; omega) (Tot.bind (R := fun v' => v' = if j.Id = c.Id ∧ j.To = s then j.From else v) ?_ fun v' hv' => Tot.chk (by unfold InI64; dsimp only; omega) (Tot.inl ⟨rfl, ?_⟩))
     ·simp only [idx_some hj, idx_some hc, Option.bind_some, ite_some]
      refine Tot.ret ?_
      by_cases e1 : j.Id = c.Id
      ·by_cases e2 : j.To = s <;> simp [e1, e2]
      ·simp [e1]
     ·subst hv'
      dsimp only
      by_cases e : j.Id = c.Id ∧ j.To = s
      ·rw [if_pos e]; exact .inr ⟨j, List.mem_of_getElem? hj, e.1, e.2, rfl⟩
      ·rw [if_neg e]
       rcases hv with ⟨h1, h2⟩ | h1
       ·refine .inl ⟨h1, fun k' hk' => ?_⟩
        rw [take_snoc hj] at hk'
        rcases List.mem_append.1 hk' with hk' | hk'
        ·exact h2 k' hk'
        ·rw [List.mem_singleton.1 hk']; exact e
       ·exact .inr h1
    ·unfold law27_ScrubMends_B4
     rw [List.take_length] at hv
     exact Tot.ncond (by simp) (Tot.out (Tot.ret hv))
   have hta : isS a s := by
    have := (stands_up h0 hs1).1
    exact ⟨this.1, by rw [ha.len]; exact this.2⟩
   have hat := at_get hta
   have hdt := at_get (stands_up h0 hs1).1
   have key : v ∈ intactN D c ∧ thereN (atS a s) c.Id = thereN (atS D v) c.Id := by
    rcases hv with ⟨rfl, hno⟩ | ⟨j, hj, e1, e2, rfl⟩
    ·have hs0 : standsN D c v = 0 := Classical.byContradiction fun hs0 => hno _ (mem_plan.2 ⟨c, hcm, hne, mem_jobs.2 ⟨v, hsm, hs0, hs1, rfl⟩⟩) ⟨rfl, rfl⟩
     exact ⟨mem_intact.2 ⟨hsm, hs0⟩, ha.kept _ _ _ hdt hat c.Id fun j hj hjt hji => hno j hj ⟨hji, by omega⟩⟩
    ·obtain ⟨c', hc', k1, k2, k3, k4, k5, k6⟩ := (job_in hD hR hj).ex
     have : c' = c := hR.uniqId hc' hcm (by omega)
     subst this
     refine ⟨k4, ?_⟩
     have := ha.moved _ _ hat j hj (by omega)
     rw [e1] at this; exact this
   obtain ⟨hvi, hth⟩ := key
   obtain ⟨hvs, hv0⟩ := mem_intact.1 hvi
   have hvp := hcc.p _ hvs
   obtain ⟨g1, g2, g3, g4⟩ := intact_get hvp hv0
   have hsd := hD.2 _ (at_mem g1)
   have hsa := haS.2 _ (at_mem hta)
   have hg := getN_congr hsa hsd hth
   refine Tot.bindeq (a := false) ?_ (Tot.ncond (by simp) (Tot.bindeq (at_idx g1) (Tot.bindeq (idx_some hc) (Tot.bindeq (p_GetN hsd c.Id) (Tot.bindeq (at_idx hta) (Tot.bindeq (idx_some hc) (Tot.bindeq (p_GetN hsa c.Id) (Tot.bindeq (a := false) ?_ (Tot.ncond (by simp) ?_)))))))))
   ·rw [p_in _ _ (by omega)]
    have hvl : v < (D.length : Int) := g1.2
    have hvl0 : 0 ≤ v := g1.1
    have a1 : ¬ v < 0 := by omega
    have a2 : ¬ (D.length : Int) ≤ v := by omega
    simp [hvi, a1, a2]
   ·rw [hg]
    have hsz := (getN_spec hsd c.Id).2.1
    have hsame : ref25_Same (getN (atS D v) c.Id).1 (getN (atS D v) c.Id).1 = some true := by
     obtain ⟨b, e, hb⟩ := p_Same (getN (atS D v) c.Id).1 (getN (atS D v) c.Id).1 ⟨by omega, by omega⟩
     rw [e, hb.2 rfl]
    have hsi : s ∈ intactN a c := mem_intact.2 ⟨hsm, hst⟩
    simp [g3, g4, idx_some hc, p_in _ _ (show (intactN a c).length ≤ 100000 by omega), hsi, hsame]
   ·unfold law27_ScrubMends_J3
    exact Tot.chk (by unfold InI64; omega) (Tot.inl ⟨rfl, trivial⟩)
  ·unfold law27_ScrubMends_B3 law27_ScrubMends_J2
   exact Tot.bindeq (idx_some hc) (Tot.ncond (by simp) (Tot.out (Tot.chk (by unfold InI64; omega) (Tot.inl ⟨rfl, trivial⟩))))
 ·unfold law27_ScrubMends_B2 law27_ScrubMends_J1
  exact Tot.ncond (by simp) (Tot.out (Tot.ret rfl))
end Go.Proofs
