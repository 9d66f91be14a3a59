/- Jobs, plain: the laws of what is spent, and of what is renewed. No condition. -/
import Derived.Test.YtcbpphgndncebaaXMendRenewsP28d
namespace Go.Proofs
set_option linter.all false
open Go Go.Cat

theorem l_MendBudget (x : List api_Job) (b : Int) (h1 : okL_c_api_Job x) (h2 : ok_i64 b) : law28_MendBudget x b = some true := by
  have hb : InI64 b := h2
  refine Tot.eq (Tot.mono (Q := Tells True) ?_ fun b h => h.2 trivial)
  unfold law28_MendBudget
  refine Tot.bindeq p_head28 (Tot.bind (t_FewJ x) fun f ea => ?_)
  have la : f.length ≤ 40 := by rw [ea]; exact few_lenJ x
  clear ea
  refine Tot.bind (t_rOrder f (by omega)) fun l hl => ?_
  have ll := ord_len hl la
  have hp := Qu_posL hl.2
  have hbnd := totJ_bnd hp
  refine Tot.bind (t_Step l b hp (by omega) hb) fun p ep => Tot.bind (t_Total l hp (by omega)) fun t et => ?_
  subst ep et
  have hsl := step_len b l
  have hq' := step_Qu (b := b) hl.2
  have htot : totJ (stepL b l).1 = totJ l - min (max b 0) (totJ l) := by rw [← stepL_max hp]; exact step_tot hp (by omega)
  refine Tot.bind (R := Tells False) (Tot.chk (by unfold InI64; omega) (Tot.bind (Tot.orI (P := False) (Q := False) (by simp; omega) fun _ => Tot.bind (t_Total _ (Qu_posL hq') (by omega)) fun u hu => Tot.chk ?_ (Tot.is ?_)) fun c h => Tot.ret (h.iff (by simp)))) fun v hv => Tot.ncond hv.1 ?_
  · have := totJ_bnd (Qu_posL hq'); unfold InI64; omega
  · rw [hu, htot]; simp; omega
  · obtain ⟨k, e1, e2, e3⟩ := step_shape b l hp
    generalize hgp : stepL b l = LE at hsl hq' htot e1 e2 e3 ⊢
    obtain ⟨L, E⟩ := LE
    dsimp only at hsl hq' htot e1 e2 e3 ⊢
    clear hgp
    unfold law28_MendBudget_L1
    refine Tot.search (l := l) (fun _ => False) (fun n j hj _ => ?_) (fun _ => ?_)
    · have hn := (getR hj).1
      have hfin : Tot (law28_MendBudget_J2 (n : Int) ()) (fun y => (False ∧ ∃ r, y = .inr r ∧ Tells True r) ∨ (¬ False ∧ y = .inl ((n : Int) + 1))) := Tot.chk (by unfold InI64; omega) ⟨_, rfl, .inr ⟨id, rfl⟩⟩
      unfold law28_MendBudget_B1
      refine Tot.cond (by simp; omega) (Tot.bindeq (idx_some hj) (Tot.ite (fun h => ?_) (fun h => ?_)))
      · have hnE : n < E.length := by simp at h; omega
        have hEn : E[n]? = some (setL j 0) := by
          rw [e1, List.getElem?_map, List.getElem?_take, if_pos (by omega), hj]; rfl
        refine Tot.bindeq (idx_some hEn) (Tot.ncond (by simp [setL]) hfin)
      · have hnE : E.length ≤ n := by simp at h; omega
        have hL : ∃ v, 1 ≤ v ∧ v ≤ j.Left ∧ (n > E.length → v = j.Left) ∧ L[n - E.length]? = some (setL j v) := by
          rcases e3 with ⟨g1, _⟩ | ⟨z, v, g1, g2, g3, g4⟩
          · omega
          · rw [← e2, g4]
            rcases Nat.eq_or_lt_of_le hnE with h | h
            · have hk : n = k := by omega
              subst hk
              rw [hj] at g1
              cases g1
              exact ⟨v, g2, g3, fun h' => by omega, by rw [Nat.sub_self]; rfl⟩
            · have hjm := hp j (getR hj).2
              refine ⟨j.Left, hjm.1, Int.le_refl _, fun _ => rfl, ?_⟩
              obtain ⟨q, hq⟩ : ∃ q, n - k = q + 1 := ⟨n - k - 1, by omega⟩
              rw [hq, List.getElem?_cons_succ, List.getElem?_drop, show k + 1 + q = n by omega, hj]; rfl
        obtain ⟨v, v1, v2, v3, v4⟩ := hL
        refine Tot.chk (by unfold InI64; dsimp only; omega) ?_
        dsimp only
        rw [show (n : Int) - (E.length : Int) = ((n - E.length : Nat) : Int) by omega]
        refine Tot.bindeq (idx_some v4) (Tot.bind (R := Tells False) ?_ fun c hc => Tot.ncond hc.1 hfin)
        refine Tot.bind (Tot.orI (P := False) (Q := False) (by simp [setL]) fun _ => Tot.dec ⟨fun h => by have h : v < 1 := h; omega, fun h => h.elim⟩) fun c1 h1 => ?_
        refine Tot.bind (Tot.orI (Q := False) h1 fun _ => Tot.dec ⟨fun h => by have h : v > j.Left := h; omega, fun h => h.elim⟩) fun c2 h2 => ?_
        refine Tot.bind (Tot.orI (Q := False) h2 fun _ => ?_) fun c3 h3 => Tot.ret (h3.iff (by simp))
        refine Tot.bind (R := Tells (((n : Int) > E.length) ∧ False)) (Tot.andI (by simp) fun hg => Tot.is ?_) fun c hc => Tot.ret (hc.iff (by simp))
        have := v3 (by omega)
        subst this
        simp [setL]
    · unfold law28_MendBudget_B1
      exact Tot.ncond (by simp) (Tot.done (Tot.ret (Tells.yes trivial)))

theorem renV_le (l : List api_Job) (j : api_Job) : renV l j ≤ j.Left := by
  unfold renV
  split
  · split <;> omega
  · omega
theorem renV_pos {l : List api_Job} {j : api_Job} (hl : posL l) (hj : 1 ≤ j.Left) : 1 ≤ renV l j := by
  unfold renV
  split
  · rename_i x hx
    have := hl x (List.mem_of_find?_eq_some hx)
    split <;> omega
  · omega
theorem renL_Qu {l p : List api_Job} (hl : posL l) (hp : Qu p) : Qu (renL l p) := by
  unfold renL
  refine ⟨fun j hj => ?_, ?_, ?_⟩
  · obtain ⟨x, hx, rfl⟩ := List.mem_map.1 hj
    have hm := hp.1 x hx
    have h1 := renV_le l x
    have h2 := renV_pos (l := l) (j := x) hl (by unfold MayJ at hm; omega)
    unfold MayJ at *; unfold setL; dsimp only; omega
  · rw [List.pairwise_map]; exact hp.2.1
  · rw [List.pairwise_map]; exact hp.2.2
theorem find_self {l : List api_Job} {j : api_Job} (hl : l.Pairwise fun a b => ¬ AlikeJ a b) (hj : j ∈ l) : l.find? (fun x => decide (AlikeJ x j)) = some j := by
  induction l with
  | nil => cases hj
  | cons a l ih =>
    rw [List.pairwise_cons] at hl
    rcases List.mem_cons.1 hj with e | hj
    · subst e; rw [List.find?_cons_of_pos (by simp [AlikeJ])]
    · rw [List.find?_cons_of_neg (by simpa using hl.1 j hj)]; exact ih hl.2 hj
theorem renV_self {l : List api_Job} {j : api_Job} (hl : l.Pairwise fun a b => ¬ AlikeJ a b) (hj : j ∈ l) : setL j (renV l j) = j := by
  unfold renV; rw [find_self hl hj]; simp [setL]
theorem renL_self {l : List api_Job} (hl : Qu l) : renL l l = l := by
  unfold renL
  conv => rhs; rw [← List.map_id l]
  exact List.map_congr_left fun j hj => renV_self hl.2.2 hj
theorem renL_nil (p : List api_Job) : renL [] p = p := by
  unfold renL
  conv => rhs; rw [← List.map_id p]
  exact List.map_congr_left fun j _ => rfl
/-- What is left of a queue renews its end. -/
theorem renL_left {j : api_Job} {r : List api_Job} {v : Int} (h : Qu (j :: r)) (hv : v ≤ j.Left) : renL (setL j v :: r) (j :: r) = setL j v :: r := by
  have hp := List.pairwise_cons.1 h.2.2
  show setL j (renV (setL j v :: r) j) :: r.map (fun x => setL x (renV (setL j v :: r) x)) = _
  have e1 : renV (setL j v :: r) j = v := by
    unfold renV
    rw [List.find?_cons_of_pos (by simp [AlikeJ, setL])]
    show (if j.Ver = j.Ver then min j.Left v else j.Left) = v
    rw [if_pos rfl]; omega
  rw [e1]
  congr 1
  conv => rhs; rw [← List.map_id r]
  refine List.map_congr_left fun x hx => ?_
  have e2 : renV (setL j v :: r) x = renV r x := by
    have e3 : (setL j v :: r).find? (fun y => decide (AlikeJ y x)) = r.find? (fun y => decide (AlikeJ y x)) := List.find?_cons_of_neg (fun h => hp.1 x hx (of_decide_eq_true h))
    unfold renV
    rw [e3]
  rw [e2]
  exact renV_self hp.2 hx
theorem renL_drop (l p : List api_Job) (k : Nat) : (renL l p).drop k = renL l (p.drop k) := by unfold renL; rw [List.map_drop]

theorem l_MendRenews (x y : List api_Job) (b : Int) (h1 : okL_c_api_Job x) (h2 : okL_c_api_Job y) (h3 : ok_u16 b) : law28_MendRenews x y b = some true := by
  have hb : 0 ≤ b ∧ b ≤ 65535 := h3
  refine Tot.eq (Tot.mono (Q := Tells True) ?_ fun b h => h.2 trivial)
  unfold law28_MendRenews
  refine Tot.bindeq p_head28 (Tot.bind (t_FewJ x) fun f ea => ?_)
  have la : f.length ≤ 40 := by rw [ea]; exact few_lenJ x
  clear ea
  refine Tot.bind (t_rOrder f (by omega)) fun l hl => Tot.bind (t_FewJ y) fun g ec => ?_
  have lc : g.length ≤ 40 := by rw [ec]; exact few_lenJ y
  clear ec
  refine Tot.bind (t_rOrder g (by omega)) fun p hp => ?_
  have ll := ord_len hl la
  have lp := ord_len hp lc
  have hlp := Qu_posL hl.2
  refine Tot.bind (t_Renew l p (by omega) (by omega)) fun n en => ?_
  have hln : n.length = p.length := by rw [en]; unfold renL; simp
  have hqn : Qu n := by rw [en]; exact renL_Qu hlp hp.2
  refine Tot.bind (R := Tells False) (Tot.bind (Tot.orI (P := False) (Q := False) (by simp; omega) fun _ => Tot.bind (t_Right n (by omega)) fun u hu => Tot.is (by rw [hu.2 hqn]; simp)) fun c h => Tot.ret (h.iff (by simp))) fun v hv => Tot.ncond hv.1 ?_
  unfold law28_MendRenews_L1
  refine Tot.search (l := n) (fun _ => False) (fun i j hj _ => ?_) (fun _ => ?_)
  · have hi := (getR hj).1
    have hpi : p[i]? = some p[i] := getLt (by omega)
    generalize p[i] = q at hpi
    have hjq : j = setL q (renV l q) := by
      rw [en] at hj; unfold renL at hj
      rw [List.getElem?_map, hpi] at hj
      exact (Option.some.inj hj).symm
    have hle := renV_le l q
    unfold law28_MendRenews_B1
    refine Tot.cond (by simp; omega) (Tot.bindeq (idx_some hj) (Tot.bindeq (idx_some hpi) (Tot.ncond ?_ (Tot.bindeq (idx_some hpi) (Tot.bindeq (idx_some hpi) (Tot.ncond ?_ (Tot.chk (by unfold InI64; omega) ⟨_, rfl, .inr ⟨id, rfl⟩⟩)))))))
    · rw [hjq]; simp [setL]; omega
    · rw [hjq]; simp [setL]
  · unfold law28_MendRenews_B1
    refine Tot.ncond (by simp) (Tot.done ?_)
    unfold law28_MendRenews_J1
    rw [show IntKind.i64.wrap b = b from IntWalk.i64_in _ ⟨by omega, by omega⟩]
    refine Tot.bind (t_Step l b hlp (by omega) (by unfold InI64; omega)) fun s es => ?_
    subst es
    have hsl := step_len b l
    obtain ⟨k, e1, e2, e3⟩ := step_shape b l hlp
    refine Tot.bind (t_Renew (stepL b l).1 l (by omega) (by omega)) fun m em => ?_
    have hlm : m.length = l.length := by rw [em]; unfold renL; simp
    refine Tot.bind (R := Tells False) (Tot.bind (Tot.orI (P := False) (Q := False) (by simp; omega) fun _ => Tot.is (by simp; omega)) fun c h => Tot.ret (h.iff (by simp))) fun v hv => Tot.ncond hv.1 (Tot.bind (R := Tells True) ?_ fun _ h => Tot.ret h)
    refine Tot.bind (Tot.andI (P := True) (Q := True) (by simp) fun _ => Tot.bind (t_Renew l l (by omega) (by omega)) fun r hr => t_true (t_SameJ r l (by rw [hr, renL_self hl.2]; omega)) (by rw [hr, renL_self hl.2])) fun c1 h1 => ?_
    refine Tot.bind (Tot.andI (Q := True) h1 fun _ => Tot.bind (t_Renew [] p (by simp) (by omega)) fun r hr => t_true (t_SameJ r p (by rw [hr, renL_nil]; omega)) (by rw [hr, renL_nil])) fun c2 h2 => ?_
    refine Tot.bind (Tot.andI (Q := True) h2 fun _ => Tot.chk (by unfold InI64; omega) (Tot.chk (by omega) (t_true (t_SameJ _ _ (by simp; omega)) ?_))) fun c3 h3 => Tot.ret (h3.iff (by simp))
    have ek : ((l.length : Int) - ((stepL b l).1.length : Int)).toNat = k := by omega
    rw [ek, em, renL_drop]
    rcases e3 with ⟨g1, g2⟩ | ⟨z, v, g1, g2, g3, g4⟩
    · rw [g2, g1, List.drop_length]; rfl
    · obtain ⟨hk, e⟩ := List.getElem?_eq_some_iff.1 g1
      have hd : l.drop k = z :: l.drop (k + 1) := by rw [List.drop_eq_getElem_cons hk, e]
      rw [g4, hd]
      exact renL_left (by rw [← hd]; exact Qu_sub hl.2 (List.drop_sublist _ _)) g3
end Go.Proofs
