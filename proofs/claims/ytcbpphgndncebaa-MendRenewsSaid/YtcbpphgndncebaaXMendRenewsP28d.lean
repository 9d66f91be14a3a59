/- Jobs, plain: the document's examples; the laws. No condition. -/
import Derived.Test.YtcbpphgndncebaaXMendRenewsP28c
import Derived.Test.YtcbpphgndncebaaXMendRenewsIn
namespace Go.Proofs
set_option linter.all false
open Go Go.Cat

theorem p_job (a b c d : Int) : law28_job a b c d = some ⟨b, 0, 9, c, a, d⟩ := rfl
abbrev jA : api_Job := ⟨1, 0, 9, 0, 2, 5⟩
abbrev jB : api_Job := ⟨4, 0, 9, 3, 1, 4⟩
abbrev jC : api_Job := ⟨4, 0, 9, 3, 1, 2⟩
abbrev jD : api_Job := ⟨2, 0, 9, 2, 0, 2⟩

theorem filt0 : filtJ [jA, jB, jC, jD] = [jA, jB] := by
  have n1 : keepJ [] jA = [jA] := by unfold keepJ; rw [if_pos ⟨by decide, fun ⟨_, h, _⟩ => by cases h⟩]; rfl
  have n2 : keepJ [jA] jB = [jA, jB] := by
    unfold keepJ; rw [if_pos ⟨by decide, fun ⟨y, h, g⟩ => by rw [List.mem_singleton.1 h] at g; revert g; decide⟩]; rfl
  have n3 : keepJ [jA, jB] jC = [jA, jB] := by
    unfold keepJ; rw [if_neg fun h => h.2 ⟨jB, by simp, by decide⟩]
  have n4 : keepJ [jA, jB] jD = [jA, jB] := by
    unfold keepJ; rw [if_neg fun h => absurd h.1 (by decide)]
  show keepJ (keepJ (keepJ (keepJ [] jA) jB) jC) jD = _
  rw [n1, n2, n3, n4]
theorem pw2 {R : api_Job → api_Job → Prop} {a b : api_Job} (h : R a b) : [a, b].Pairwise R := List.pairwise_cons.2 ⟨fun x hx => by rw [List.mem_singleton.1 hx]; exact h, List.pairwise_singleton _ _⟩
theorem quBA : Qu [jB, jA] := ⟨fun j hj => by
    rcases List.mem_cons.1 hj with e | hj
    · rw [e]; decide
    · rw [List.mem_singleton.1 hj]; decide, pw2 (by unfold AheadJ; decide), pw2 (by decide)⟩

theorem t_true {α : Type} {x y : α} {o : Option Bool} (h : Tot o (Tells (x = y))) (e : x = y) : Tot (o.bind fun b => some b) (Tells True) := Tot.bind h fun _ h => Tot.ret (h.iff (iff_true_intro e))

theorem p_head28 : law28_head = some true := by
  refine Tot.eq (Tot.mono (Q := Tells True) ?_ fun b h => h.2 trivial)
  unfold law28_head
  refine Tot.bindeq (p_job _ _ _ _) (Tot.bindeq (p_job _ _ _ _) (Tot.bindeq (p_job _ _ _ _) (Tot.bindeq (p_job _ _ _ _) (Tot.bind (t_Order [jA, jB, jC, jD] (by decide)) fun r hr => ?_))))
  have er : r = [jB, jA] := order_uniq hr ⟨by rw [filt0]; exact List.Perm.swap _ _ _, quBA⟩
  subst er
  have hp := Qu_posL quBA
  refine Tot.bind (t_Step _ 6 hp (by decide) (by decide)) fun v hv => Tot.bindeq (p_job _ _ _ _) (Tot.bind (t_Renew [jC] [jB, jA] (by decide) (by decide)) fun w hw => ?_)
  have ev : stepL 6 [jB, jA] = ([⟨1, 0, 9, 0, 2, 3⟩], [⟨4, 0, 9, 3, 1, 0⟩]) := rfl
  have ew : renL [jC] [jB, jA] = [jC, jA] := rfl
  rw [ev] at hv
  rw [ew] at hw
  subst hv hw
  refine Tot.bind (R := Tells True) ?_ fun _ h => Tot.ret h
  refine Tot.bindeq (p_job _ _ _ _) (Tot.bindeq (p_job _ _ _ _) (Tot.bind (t_SameJ _ _ (by decide)) fun b0 h0 => ?_))
  refine Tot.bind (Tot.andI (Q := True) h0 fun _ => Tot.bindeq (p_job _ _ _ _) (t_true (t_SameJ _ _ (by decide)) rfl)) fun b1 h1 => ?_
  refine Tot.bind (Tot.andI (Q := True) h1 fun _ => Tot.bindeq (p_job _ _ _ _) (t_true (t_SameJ _ _ (by decide)) rfl)) fun b2 h2 => ?_
  refine Tot.bind (Tot.andI (Q := True) h2 fun _ => Tot.bind (t_Steps _ 4 hp (by decide) (by decide)) fun n hn => Tot.ret (by rw [hn]; exact Tells.yes trivial)) fun b3 h3 => ?_
  refine Tot.bind (Tot.andI (Q := True) h3 fun _ => Tot.bind (t_Steps _ 0 hp (by decide) (by decide)) fun n hn => Tot.ret (by rw [hn]; exact Tells.yes trivial)) fun b4 h4 => ?_
  refine Tot.bind (Tot.andI (Q := True) h4 fun _ => Tot.bind (t_Steps [] 0 (fun _ h => (by cases h)) (by decide) (by decide)) fun n hn => Tot.ret (by rw [hn]; exact Tells.yes trivial)) fun b5 h5 => ?_
  refine Tot.bind (Tot.andI (Q := True) h5 fun _ => Tot.bindeq (p_job _ _ _ _) (Tot.bindeq (p_job _ _ _ _) (t_true (t_SameJ _ _ (by decide)) rfl))) fun b6 h6 => ?_
  refine Tot.bind (Tot.andI (Q := True) h6 fun _ => Tot.bind (R := Tells (Qu [jB, jA])) (t_Right _ (by decide)) fun _ h => Tot.ret (h.iff (iff_true_intro quBA))) fun b7 h7 => ?_
  refine Tot.bind (Tot.andI (Q := True) h7 fun _ => Tot.bindeq (p_job _ _ _ _) (Tot.bindeq (p_job _ _ _ _) (Tot.bind (t_Right [jA, jB] (by decide)) fun _ h => Tot.ret (h.not.iff (iff_true_intro fun hq => ?_))))) fun b8 h8 => Tot.ret (h8.iff (by simp))
  have := (List.pairwise_cons.1 hq.2.1).1 jB (by simp)
  unfold AheadJ at this
  revert this; decide

theorem few_lenJ (x : List api_Job) : (x.take 40).length ≤ 40 := by simp; omega
theorem ord_len {f r : List api_Job} (h : r.Perm (filtJ f) ∧ Qu r) (hf : f.length ≤ 40) : r.length ≤ 40 := by
  have := h.1.length_eq; have := (filtJ_ok f).2; omega

theorem l_MendTells (x y : List api_Job) (b : Int) (h1 : okL_c_api_Job x) (h2 : okL_c_api_Job y) (h3 : ok_i64 b) : law28_MendTells x y b = some true := by
  have hb : InI64 b := h3
  refine Tot.eq (Tot.mono (Q := Tells True) ?_ fun b h => h.2 trivial)
  unfold law28_MendTells
  refine Tot.bindeq p_head28 (Tot.bind (t_FewJ x) fun a ea => Tot.bind (t_FewJ y) fun c ec => ?_)
  have la : a.length ≤ 40 := by rw [ea]; exact few_lenJ x
  have lc : c.length ≤ 40 := by rw [ec]; exact few_lenJ y
  clear ea ec
  refine Tot.bind (t_rOrder a (by omega)) fun l hl => Tot.bind (t_rOrder c (by omega)) fun m hm => ?_
  have ll := ord_len hl la
  have lm := ord_len hm lc
  have hp := Qu_posL hl.2
  refine Tot.bind (t_Step l b hp (by omega) hb) fun p ep => Tot.bind (t_rStep l b hp (by omega) hb) fun q eq => ?_
  subst ep eq
  have hsl := step_len b l
  refine Tot.bind (R := Tells True) ?_ fun _ h => Tot.ret h
  refine Tot.bind (Tot.andI (P := True) (Q := True) (by simp) fun _ => Tot.bind (t_Right a (by omega)) fun u hu => Tot.bind (t_rRight a (by omega)) fun v hv => Tot.ret ((hu.beq hv).iff (by simp))) fun c1 h1 => ?_
  refine Tot.bind (Tot.andI (Q := True) h1 fun _ => Tot.bind (t_Order a (by omega)) fun r hr => t_true (t_SameJ r l (by have := ord_len hr la; omega)) (order_uniq hr hl)) fun c2 h2 => ?_
  refine Tot.bind (Tot.andI (Q := True) h2 fun _ => Tot.bind (t_Renew l m (by omega) (by omega)) fun r hr => Tot.bind (t_rRenew l m (by omega) (by omega)) fun s hs => t_true (t_SameJ r s (by rw [hr]; unfold renL; simp; omega)) (by rw [hr, hs])) fun c3 h3 => ?_
  refine Tot.bind (Tot.andI (Q := True) h3 fun _ => t_true (t_SameJ _ _ (by omega)) rfl) fun c4 h4 => ?_
  refine Tot.bind (Tot.andI (Q := True) h4 fun _ => t_true (t_SameJ _ _ (by omega)) rfl) fun c5 h5 => ?_
  refine Tot.bind (Tot.andI (Q := True) h5 fun _ => Tot.bind (t_Steps l b hp (by omega) hb) fun u hu => Tot.bind (t_rSteps l b hl.2 (by omega) hb) fun v hv => Tot.ret (by rw [hu, hv]; exact ⟨fun _ => trivial, fun _ => by simp⟩)) fun c6 h6 => Tot.ret (h6.iff (by simp))

theorem t_backJ (l : List api_Job) (hl : l.length ≤ 1000) : Tot (law28_MendQueue_L1 l ((l.length : Int) - 1, [])) (· = l.reverse) := by
  unfold law28_MendQueue_L1
  refine Tot.loop (fun s : Int × List api_Job => ∃ n : Nat, s.1 = (n : Int) - 1 ∧ n ≤ l.length ∧ s.2 = (l.drop n).reverse) (fun s => (s.1 + 1).toNat) ?_ _ ⟨l.length, rfl, Nat.le_refl _, by simp⟩
  rintro ⟨s, o⟩ ⟨n, h, hn, ho⟩
  dsimp only at h ho
  subst h ho
  unfold law28_MendQueue_B1
  refine Tot.ite (fun h => ?_) (fun h => ?_)
  · obtain ⟨m, rfl⟩ : ∃ m, n = m + 1 := ⟨n - 1, by simp at h; omega⟩
    have e : ((m + 1 : Nat) : Int) - 1 = (m : Int) := by omega
    rw [e]
    refine Tot.bindeq (idx_some (getLt (by omega))) (Tot.chk (by simp; omega) (Tot.chk (by unfold InI64; dsimp only; omega) (Tot.inl ⟨⟨m, rfl, by omega, ?_⟩, by dsimp only; omega⟩)))
    dsimp only
    rw [List.drop_eq_getElem_cons (show m < l.length by omega), List.reverse_cons]
  · have : n = 0 := by simp at h; omega
    subst this
    exact Tot.out (Tot.ret (by simp))

theorem filtJ_of {l : List api_Job} (h : FOk l) {r : List api_Job} (hr : r.Perm (filtJ l)) : r.Perm l := by rw [filtJ_id l h] at hr; exact hr

theorem l_MendQueue (x : List api_Job) (b : Int) (h1 : okL_c_api_Job x) (h2 : ok_i64 b) : law28_MendQueue x b = some true := by
  have hb : InI64 b := h2
  refine Tot.eq (Tot.mono (Q := Tells True) ?_ fun b h => h.2 trivial)
  unfold law28_MendQueue
  refine Tot.bindeq p_head28 (Tot.bind (t_FewJ x) fun a ea => ?_)
  have la : a.length ≤ 40 := by rw [ea]; exact few_lenJ x
  have lax : a.length ≤ x.length := by rw [ea]; simp; omega
  clear ea
  refine Tot.bind (t_Order a (by omega)) fun l hl => ?_
  have ll := ord_len hl la
  have lla : l.length ≤ a.length := by have := hl.1.length_eq; have := (filtJ_ok a).2; omega
  have hp := Qu_posL hl.2
  have hq := hl.2
  refine Tot.bind (R := (· = l.reverse)) (Tot.chk (by unfold InI64; omega) (t_backJ l (by omega))) fun v hv => ?_
  subst hv
  refine Tot.bind (t_Step l b hp (by omega) hb) fun p ep => ?_
  subst ep
  have hsl := step_len b l
  obtain ⟨k, e1, e2, _⟩ := step_shape b l hp
  unfold law28_MendQueue_L2
  refine Tot.search (l := (stepL b l).2) (fun _ => False) (fun n j hj _ => ?_) (fun _ => ?_)
  · have hn := (getR hj).1
    have hj0 : j.Left = 0 := by
      rw [e1] at hj
      rw [List.getElem?_map] at hj
      cases hx : (l.take k)[n]? with
      | none => rw [hx] at hj; cases hj
      | some z => rw [hx] at hj; cases hj; rfl
    unfold law28_MendQueue_B2
    refine Tot.cond (by simp; omega) (Tot.bindeq (idx_some hj) (Tot.found (b := j.Left != 0) (by omega) (by simp [hj0]) fun h => h.elim))
  · unfold law28_MendQueue_B2
    refine Tot.ncond (by simp) (Tot.done ?_)
    unfold law28_MendQueue_J1
    refine Tot.bind (R := Tells True) ?_ fun _ h => Tot.ret h
    refine Tot.bind (Tot.andI (P := True) (Q := True) (by simp) fun _ => Tot.bind (R := Tells (Qu l)) (t_Right l (by omega)) fun _ h => Tot.ret (h.iff (iff_true_intro hq))) fun c1 h1 => ?_
    refine Tot.bind (Tot.andI (Q := True) h1 fun _ => Tot.bind (t_Order l (by omega)) fun r hr => t_true (t_SameJ r l (by have := ord_len hr ll; omega)) (ahead_uniq (filtJ_of (Qu_FOk hq) hr.1) hr.2.2.1 hq.2.1)) fun c2 h2 => ?_
    refine Tot.bind (Tot.andI (Q := True) h2 fun _ => Tot.bind (t_Order l.reverse (by simp; omega)) fun r hr => t_true (t_SameJ r l (by have := ord_len hr (by simp; omega); omega)) (ahead_uniq ((filtJ_of (FOk_perm (List.reverse_perm l).symm (Qu_FOk hq)) hr.1).trans (List.reverse_perm l)) hr.2.2.1 hq.2.1)) fun c3 h3 => ?_
    refine Tot.bind (Tot.andI (Q := True) h3 fun _ => Tot.bind (R := Tells (Qu (stepL b l).1)) (t_Right _ (by omega)) fun _ h => Tot.ret (h.iff (iff_true_intro (step_Qu hq)))) fun c4 h4 => ?_
    refine Tot.bind (Tot.andI (Q := True) h4 fun _ => Tot.chk (by unfold InI64; omega) (Tot.is (iff_true_intro (beq_iff_eq.2 (by omega))))) fun c5 h5 => ?_
    refine Tot.bind (Tot.andI (Q := True) h5 fun _ => Tot.is (iff_true_intro (decide_eq_true (by omega)))) fun c6 h6 => Tot.ret (h6.iff (by simp))

theorem l_MendTwice (x : List api_Job) (a b : Int) (h1 : okL_c_api_Job x) (h2 : ok_u16 a) (h3 : ok_u16 b) : law28_MendTwice x a b = some true := by
  have ha : 0 ≤ a ∧ a ≤ 65535 := h2
  have hb : 0 ≤ b ∧ b ≤ 65535 := h3
  refine Tot.eq (Tot.mono (Q := Tells True) ?_ fun b h => h.2 trivial)
  unfold law28_MendTwice
  rw [show IntKind.i64.wrap a = a from IntWalk.i64_in _ ⟨by omega, by omega⟩, show IntKind.i64.wrap b = b from IntWalk.i64_in _ ⟨by omega, by omega⟩]
  refine Tot.bindeq p_head28 (Tot.bind (t_FewJ x) fun f ea => ?_)
  have la : f.length ≤ 40 := by rw [ea]; exact few_lenJ x
  clear ea
  refine Tot.bind (t_rOrder f (by omega)) fun l hl => ?_
  have ll := ord_len hl la
  have hp := Qu_posL hl.2
  refine Tot.bind (t_Step l a hp (by omega) (by unfold InI64; omega)) fun p ep => ?_
  subst ep
  have hsl := step_len a l
  have hq' := step_Qu (b := a) hl.2
  refine Tot.bind (t_rRight _ (by omega)) fun u hu => Tot.ncond (by rw [hu.2 hq']; simp) ?_
  refine Tot.bind (t_Step _ b (Qu_posL hq') (by omega) (by unfold InI64; omega)) fun q eq => Tot.chk (by unfold InI64; omega) (Tot.bind (t_Step l (a + b) hp (by omega) (by unfold InI64; omega)) fun r er => ?_)
  subst eq er
  have hsl2 := step_len b (stepL a l).1
  have hc := step_comp hp ha.1 hb.1
  rw [List.nil_append]
  refine Tot.chk (by simp; omega) (Tot.chk (by omega) (Tot.bind (R := Tells True) ?_ fun _ h => Tot.ret h))
  refine Tot.bind (Tot.andI (P := True) (Q := True) (by simp) fun _ => t_true (t_SameJ _ _ (by omega)) (by rw [hc])) fun c1 h1 => ?_
  refine Tot.bind (Tot.andI (Q := True) h1 fun _ => t_true (t_SameJ _ _ (by simp; omega)) (by rw [hc])) fun c2 h2 => Tot.ret (h2.iff (by simp))

theorem l_MendEnds (x : List api_Job) (by_ : UInt8) (h1 : okL_c_api_Job x) (h2 : ok_u8 by_) : law28_MendEnds x by_ = some true := by
  refine Tot.eq (Tot.mono (Q := Tells True) ?_ fun b h => h.2 trivial)
  unfold law28_MendEnds
  have hby := by_.toNat_lt
  refine Tot.bindeq p_head28 (Tot.bind (t_FewJ x) fun f ea => ?_)
  have la : f.length ≤ 40 := by rw [ea]; exact few_lenJ x
  clear ea
  refine Tot.bind (t_rOrder f (by omega)) fun l hl => ?_
  have ll := ord_len hl la
  have hp := Qu_posL hl.2
  have hbnd := totJ_bnd hp
  generalize hB : (1 + (by_.toNat : Int)) = B
  have hB1 : 1 ≤ B ∧ B ≤ 256 := by omega
  refine Tot.chk (by unfold InI64; omega) (Tot.bind (t_Steps l B hp (by omega) (by unfold InI64; omega)) fun n hn => Tot.bind (t_Total l hp (by omega)) fun t ht => ?_)
  subst ht
  have hnn := stepsN_nonneg hp hB1.1
  have hle := stepsN_le hp hB1.1
  rw [← hn] at hnn hle
  -- as many as there are bytes by the budget
  have hmul : (n > 0 → (n - 1) * B < totJ l) ∧ totJ l ≤ n * B ∧ n * B ≤ totJ l * 256 + 256 := by
    unfold stepsN at hn
    by_cases h0 : l = []
    · rw [if_pos h0] at hn; subst hn; subst h0
      simp [totJ]
    · rw [if_neg h0, if_neg (by omega)] at hn
      have hpos : 0 < l.length := List.length_pos_iff.2 h0
      have d1 := Int.mul_ediv_add_emod (totJ l - 1) B
      have d2 := Int.emod_nonneg (totJ l - 1) (show B ≠ 0 by omega)
      have d3 := Int.emod_lt_of_pos (totJ l - 1) (show 0 < B by omega)
      generalize (totJ l - 1) / B = q at *
      subst hn
      have e1 : (1 + q - 1) * B = B * q := by rw [show 1 + q - 1 = q by omega, Int.mul_comm]
      have e2 : (1 + q) * B = B + B * q := by rw [Int.add_mul, Int.one_mul, Int.mul_comm q B]
      rw [e1, e2]
      omega
  have hnl : n ≤ 2600 := by omega
  have hb1 : -256 ≤ (n - 1) * B := by
    have : (n - 1) * B = n * B - B := by rw [Int.sub_mul, Int.one_mul]
    have := Int.mul_nonneg hnn.1 (show 0 ≤ B by omega)
    omega
  have hb2 : (n - 1) * B ≤ n * B := Int.mul_le_mul_of_nonneg_right (by omega) (by omega)
  refine Tot.bind (R := Tells False) ?_ fun v hv => Tot.ncond hv.1 ?_
  · refine Tot.bind (Tot.orI (P := False) (Q := False) (by simp; omega) fun _ => Tot.is (by simp; omega)) fun c1 h1 => ?_
    refine Tot.bind (Tot.orI (Q := False) h1 fun _ => Tot.chk (by unfold InI64; omega) (Tot.chk (by unfold InI64; omega) (Tot.bind (R := Tells (((n - 1) * B ≥ totJ l) ∧ n > 0)) (Tot.andI (by simp) fun _ => Tot.dec Iff.rfl) fun c hc => Tot.ret (hc.iff ⟨fun h => by have := hmul.1 h.2; omega, fun h => h.elim⟩)))) fun c2 h2 => ?_
    refine Tot.bind (Tot.orI (Q := False) h2 fun _ => Tot.chk (by unfold InI64; omega) (Tot.dec ⟨fun h => by omega, fun h => h.elim⟩)) fun c3 h3 => Tot.ret (h3.iff (by simp))
  · unfold law28_MendEnds_L1
    refine Tot.loop (fun s : List api_Job × Int => Qu s.1 ∧ s.1.length ≤ 40 ∧ 0 ≤ s.2 ∧ s.2 ≤ n ∧ stepsN s.1 B = n - s.2) (fun s => (n - s.2).toNat) ?_ (l, 0) ⟨hl.2, ll, Int.le_refl _, hnn.1, by simp [hn]⟩
    rintro ⟨z, i⟩ ⟨hz, hzl, hi, hin, hs⟩
    dsimp only at hz hzl hi hin hs
    have hzp := Qu_posL hz
    have hz0 := stepsN_nonneg hzp hB1.1
    unfold law28_MendEnds_B1
    rw [hB]
    refine Tot.ite (fun h => ?_) (fun h => ?_)
    · have hlt : i < n := by simpa using h
      have hzne : z ≠ [] := fun e => by have := hz0.2.2 e; omega
      refine Tot.ncond (by simpa using hzne) (Tot.bind (t_Step z B hzp (by omega) (by unfold InI64; omega)) fun p ep => ?_)
      subst ep
      have hq' := step_Qu (b := B) hz
      have h6 := step_len B z
      have h7 := stepsN_step hzp hB1.1 hzne (Qu_posL hq')
      refine Tot.bind (t_rRight _ (by omega)) fun u hu => Tot.ncond (by rw [hu.2 hq']; simp) (Tot.chk (by unfold InI64; dsimp only; omega) (Tot.inl ⟨⟨hq', by dsimp only; omega, by dsimp only; omega, by dsimp only; omega, by dsimp only; omega⟩, by dsimp only; omega⟩))
    · have hge : ¬ i < n := by simpa using h
      have hz1 : z = [] := hz0.2.1 (by omega)
      subst hz1
      refine Tot.out ?_
      unfold law28_MendEnds_J1
      rw [hB]
      refine Tot.bind (R := Tells True) ?_ fun _ h => Tot.ret h
      refine Tot.bind (Tot.andI (P := True) (Q := True) (by simp) fun _ => Tot.ret (Tells.yes trivial)) fun c1 h1 => ?_
      refine Tot.bind (Tot.andI (Q := True) h1 fun _ => Tot.bind (R := Tells True) (Tot.ite (fun _ => Tot.ret (Tells.yes trivial)) (fun h => ?_)) fun _ h => Tot.ret h) fun c2 h2 => Tot.ret (h2.iff (by simp))
      have hne : l ≠ [] := fun e => h (by simp [e])
      refine Tot.chk (by unfold InI64; omega) (Tot.bind (t_Steps l (0 - B) hp (by omega) (by unfold InI64; omega)) fun u hu => Tot.is (iff_true_intro ?_))
      rw [hu]; unfold stepsN
      rw [if_neg hne, if_pos (by omega)]; rfl
end Go.Proofs
