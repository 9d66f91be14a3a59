/- Mending, plain: the law of the whole. No condition. -/
import Derived.Test.YtcbpphgndncebabGreatXMendWholeP280H
namespace Go.Proofs
set_option linter.all false
open Go Go.Cat
set_option linter.all false
theorem steps_enough {T b : Int} (hb : 1 ≤ b) (hT : 0 ≤ T) : T ≤ (1 + (T - 1) / b) * b := by
 have h1 := Int.emod_add_mul_ediv (T - 1) b
 have h2 := Int.emod_lt_of_pos (T - 1) (show 0 < b by omega)
 have h3 : (1 + (T - 1) / b) * b = b + b * ((T - 1) / b) := by
  rw [Int.add_mul, Int.one_mul, Int.mul_comm]
 rw [h3]; omega
theorem l_MendWhole (D : List api_Disk) (ch : List api_Chain) (by_ : UInt8) (h1 : okL_c_api_Disk D) (h2 : okL_c_api_Chain ch) (h3 : ok_u8 by_) : law28_MendWhole D ch by_ = some true := by
 refine Tot.eq ?_
 unfold law28_MendWhole
 refine Tot.bindeq p_head28 (Tot.bind (R := fun b => b = false → GreatD D ∧ ch.length ≤ 8 ∧ RightL ch) ?_ fun q0 hq0 => Tot.ite (fun _ => Tot.ret rfl) fun h => ?_)
 ·have := t_start D ch
  rw [show (((law27_Great D ch).bind fun x2 => (if x2 then some true else (ref27_Right ch).bind fun x3 => some ((!x3))).bind fun c1 => (if c1 then some true else some ((decide ((ch.length : Int) > 8)))).bind fun c2 => some c2)) = ((law27_Great D ch).bind fun x2 => (if x2 then some true else (ref27_Right ch).bind fun x3 => some ((!x3)))).bind fun c1 => (if c1 then some true else some ((decide ((ch.length : Int) > 8)))).bind fun c2 => some c2 by rw [Option.bind_assoc]]
  refine Tot.bind this fun b hb => ?_
  refine Tot.bind (R := fun b' => b' = false → b = false ∧ ch.length ≤ 8) (Tot.ite (fun _ => Tot.ret fun e => by cases e) fun h => Tot.ret fun e => ⟨by simpa using h, by simp at e; omega⟩) fun b' hb' => Tot.ret fun e => ?_
  obtain ⟨h1, h2⟩ := hb' e
  obtain ⟨h3, h4, h5⟩ := hb h1
  exact ⟨h3, h2, h5⟩
 obtain ⟨hG, hl, hR⟩ := hq0 (by simpa using h)
 have hF := fit_of hG h1
 have hD := hF.small (by omega)
 have hDl := hF.len
 have t0 : 0 ≤ Int.tmod (by_.toNat : Int) 16 := Int.tmod_nonneg _ (by omega)
 have t1 : Int.tmod (by_.toNat : Int) 16 < 16 := Int.tmod_lt_of_pos _ (by omega)
 obtain ⟨b, hb⟩ : ∃ b : Int, 1 + Int.tmod (by_.toNat : Int) 16 = b := ⟨_, rfl⟩
 have hb1 : 1 ≤ b := by omega
 have hbi : InI64 b := by unfold InI64; omega
 have hp40 : (planJ D ch).length ≤ 40 := by
  have := plan_len (D := D) (l := ch) fun c hc => (hR.mem hc).2.2.1
  omega
 obtain ⟨eO, _, hqO⟩ := p_Order (l := planJ D ch) (by omega)
 have hO := ord_perm hD (by omega) hR
 have hOl := hO.length_eq
 have hpO := Qu_posL hqO
 have hbnd := totJ_bnd hpO
 have hsn := stepsN_nonneg hpO hb1
 have hsl := stepsN_le hpO hb1
 simp only [hb]
 refine Tot.chk (by unfold InI64; omega) (Tot.bindeq (p_Plan hD (by omega) hR.oks) (Tot.bindeq eO (Tot.bind (t_Steps _ b hpO (by omega) hbi) fun m hm => ?_)))
 subst hm
 refine Tot.bindeq (a := false) (by rw [if_neg (by simp; omega)]; simp; omega) (Tot.ncond (by simp) ?_)
 obtain ⟨n, hn⟩ : ∃ n : Nat, stepsN (ordN (planJ D ch)) b = (n : Int) := ⟨(stepsN (ordN (planJ D ch)) b).toNat, by omega⟩
 have henough : totJ (ordN (planJ D ch)) ≤ (n : Int) * b := by
  rw [← hn]
  unfold stepsN
  by_cases e : ordN (planJ D ch) = []
  ·rw [if_pos e, e, totJ_nil]; omega
  ·rw [if_neg e, if_neg (by omega)]; exact steps_enough hb1 (by omega)
 rw [hn]
 have hI0 : Inv D ch b 0 D [] := ⟨rfl, hp40, hF.mono (by omega), fun _ _ _ _ => .inl rfl, fun _ _ => Iff.rfl, Qu_nil, by simp, fun x hx => (by cases hx), by rw [renL_nil]; simp; omega⟩
 unfold law28_MendWhole_L1
 refine Tot.loop (fun s : List api_Disk × List api_Job × Int => ∃ k : Nat, s.2.2 = (k : Int) ∧ k ≤ n ∧ Inv D ch b k s.1 s.2.1) (fun s => n + 1 - s.2.2.toNat) ?_ (D, [], 0) ⟨0, rfl, Nat.zero_le _, hI0⟩
 rintro ⟨a, l, _⟩ ⟨k, rfl, hk, hI⟩
 dsimp only at hI
 unfold law28_MendWhole_B1
 simp only [hb]
 rcases Nat.lt_or_ge k n with hlt | hge
 ·have hN := inv_step hR (by omega) hb1 hI
  have hll := hI.llen
  have hll' := hN.llen
  obtain ⟨r, er, hr⟩ := t_rRight (rndN a ch l b).2.1 (by omega)
  refine Tot.cond (by simp; omega) (Tot.bindeq (p_Round hI.fit (by omega) hR (by omega) (Qu_posL hI.qu) (by omega) hbi) (Tot.bindeq (a := false) ?_ (Tot.ncond (by simp) (Tot.chk (by unfold InI64; omega) (Tot.inl ⟨⟨k + 1, rfl, hlt, hN⟩, by dsimp only; omega⟩)))))
  have : r = true := hr.2 hN.qu
  subst this
  simp [hN.len, er]
 ·obtain rfl : k = n := by omega
  refine Tot.ncond (by simp) (Tot.out ?_)
  have haS := hI.fit.small (by omega)
  have hOa := ord_perm haS (by omega) hR
  have hp60 := plan_60 (D := a) hR (by omega)
  obtain ⟨_, _, hqa⟩ := p_Order (l := planJ a ch) (by omega)
  have hpos := Qu_posL (renL_Qu (Qu_posL hI.qu) hqa)
  have hw := hI.w
  have h0 : totJ (renL l (ordN (planJ a ch))) = 0 := by
   have := (totJ_bnd hpos).1; omega
  have hr0 := (totJ_zero hpos).1 h0
  have hp0 : planJ a ch = [] := by
   have : ordN (planJ a ch) = [] := by
    unfold renL at hr0
    exact List.map_eq_nil_iff.1 hr0
   rw [this] at hOa
   exact List.nil_perm.1 hOa
  have hl0 : l = [] := by
   rw [List.eq_nil_iff_forall_not_mem]
   intro x hx
   obtain ⟨j, hj, _⟩ := hI.cov x hx
   rw [hp0] at hj; cases hj
  have hpl : planL a ch = planL D ch := by
   unfold planL
   have : ch.filter (fun c => (intactN a c).isEmpty) = ch.filter (fun c => (intactN D c).isEmpty) := List.filter_congr fun c hc => by
    rw [Bool.eq_iff_iff, List.isEmpty_iff, List.isEmpty_iff]; exact hI.int c hc
   rw [this]
  unfold law28_MendWhole_J1
  refine Tot.bindeq (p_Plan haS (by omega) hR.oks) (Tot.bindeq (a := false) (by rw [hp0, hl0, hpl]; simp) (Tot.ncond (by simp) ?_))
  unfold law28_MendWhole_L2
  refine Tot.each0 (l := ch) (fun _ => True) (fun n c hlt hc _ => ?_) (fun _ => ?_) trivial
  ·unfold law28_MendWhole_B2
   have hcm := List.mem_of_getElem? hc
   have hcc := hR.oks c hcm
   have hcn := hcc.n
   refine Tot.cond (by simp; omega) (Tot.bindeq (idx_some hc) (Tot.bindeq (r_Intact hF (by omega) hcc) ?_))
   unfold law28_MendWhole_L3
   refine Tot.each0 (l := c.Servers) (fun _ => True) (fun m s hlt2 hs _ => ?_) (fun _ => ?_) trivial
   ·unfold law28_MendWhole_B3
    have hsm := List.mem_of_getElem? hs
    have hs0 := hcc.p s hsm
    have hst := hI.st c hcm s hsm
    refine Tot.bindeq (idx_some hc) (Tot.cond (by simp; omega) (Tot.bindeq (idx_some hc) (Tot.bindeq (idx_some hs) (Tot.bindeq (idx_some hc) (Tot.bindeq (r_stands hF (by omega) c hs0) (Tot.bindeq (idx_some hc) (Tot.bindeq (r_stands hI.fit (by omega) c hs0) (Tot.bindeq (a := false) ?_ (Tot.ncond (by simp) (Tot.chk (by unfold InI64; omega) (Tot.inl ⟨rfl, trivial⟩)))))))))))
    have hno : intactN D c ≠ [] → standsN a c s = 0 ∨ standsN a c s = 1 := fun hne => by
     refine Classical.byContradiction fun e => ?_
     obtain ⟨j, hj, _⟩ := key_in (a := a) hR hcm hsm (fun e => hne ((hI.int c hcm).1 e)) (fun e' => e (.inl e')) (fun e' => e (.inr e'))
     rw [hp0] at hj; cases hj
    by_cases hne : intactN D c = []
    ·have e : standsN a c s = standsN D c s := by
      rcases hst with e | ⟨_, e, _⟩
      ·exact e
      ·exact (e hne).elim
     simp [hne, e]
    ·have hpos : 0 < (intactN D c).length := List.length_pos_iff.2 hne
     have hz : ((intactN D c).length : Int) ≠ 0 := by omega
     rcases hst with e | ⟨e, _, e3⟩
     ·rcases hno hne with e2 | e2
      ·rw [e2] at e; simp [e2, ← e, hne, hpos]
      ·rw [e2] at e; simp [e2, ← e, hne, hpos]
     ·simp [e, e3, hne, hpos]
   ·unfold law28_MendWhole_B3 law28_MendWhole_J3
    exact Tot.bindeq (idx_some hc) (Tot.ncond (by simp) (Tot.out (Tot.chk (by unfold InI64; omega) (Tot.inl ⟨rfl, trivial⟩))))
  ·unfold law28_MendWhole_B2 law28_MendWhole_J2
   exact Tot.ncond (by simp) (Tot.out (Tot.ret rfl))
end Go.Proofs
