/- Leases, plain: what is had is had. No condition. -/
import Derived.Test.YthhoomhekolbnaaXLeaseHasP22i
namespace Go.Proofs
set_option linter.all false
open Go Go.Cat
set_option linter.all false

theorem l_LeaseHas (l : List law22_Step) (q : api_Lease) (long : Int) (cut : List Int) (h1 : okL_c_law22_Step l) (h2 : ok_api_Lease q) (h3 : ok_i64 long) (h4 : okA_ok_u16_2 cut) : law22_LeaseHas l q long cut = some true := by
  clear h1 h2 h3
  obtain ⟨hcl, hcu⟩ := h4
  refine Tot.eq ?_
  unfold law22_LeaseHas
  refine Tot.bindeq p_head22 ?_
  have htab : Tot (law22_table l) (fun r => r.1.length ≤ 40 ∧ 0 ≤ r.2.1 ∧ r.2.1 ≤ 40000 ∧ (r.2.2 = true → TabP r.1 r.2.1 l.length ∧ l.length ≤ 40)) := by
    by_cases hl : l.length ≤ 40
    · refine (t_table l hl).mono fun r hr => ?_
      have a1 := hr.1.len; have a2 := hr.1.t0; have a3 := hr.1.t1
      exact ⟨by omega, a2, by omega, fun _ => ⟨hr.1, hl⟩⟩
    · unfold law22_table
      exact Tot.cond (by simp; omega) (Tot.ret ⟨by simp, by decide, by decide, fun e => by cases e⟩)
  refine Tot.bind htab fun x2 h2 => ?_
  obtain ⟨a, now, is⟩ := x2
  obtain ⟨b1, b2, b3, b4⟩ := h2
  dsimp only at b1 b2 b3 b4
  obtain ⟨r, hr, hp⟩ := t_Ask a now q long (by omega) (by omega)
  refine Tot.bindeq hr ?_
  dsimp only
  refine Tot.bind (R := Tells (¬ is = true ∨ ¬ r.2.1 = true)) (Tot.bind (Tot.orI (by simp) fun _ => Tot.is (by simp)) fun _ h => Tot.ret h) fun v hv => Tot.ite (fun _ => Tot.ret rfl) fun hf => ?_
  have hno : ¬ (¬ is = true ∨ ¬ r.2.1 = true) := fun h => hf (hv.2 h)
  have his : is = true := Classical.byContradiction fun h => hno (.inl h)
  have had : r.2.1 = true := Classical.byContradiction fun h => hno (.inr h)
  obtain ⟨hT, hl40⟩ := b4 his
  have hg : oneP (q0 q) ∧ 1 ≤ long ∧ long ≤ 64 := Classical.byContradiction fun h => by rw [hp.bad h] at had; cases had
  have hw : whoN a now q = [] := Classical.byContradiction fun h => by rw [(hp.no hg h).2.1] at had; cases had
  have hkl : (keptN a now q).length ≤ a.length := (kept_sub a now q).length_le
  have hy := hp.yes hg hw (by omega)
  have hTr := hT.ask hl40 hp
  obtain ⟨N, hN⟩ : ∃ N : api_Lease, N = ⟨q.Client, q.Ino, q.Kind, q.Span, now + (long + 2), q.Epoch⟩ := ⟨_, rfl⟩
  have hrb : r.1 = keptN a now q ++ [N] := by rw [hy, hN]
  obtain ⟨b, hb⟩ : ∃ b, b = r.1 := ⟨_, rfl⟩
  rw [← hb] at hTr hrb
  rw [← hb]
  have hbl : b.length ≤ 41 := by have := hTr.len; omega
  have hNb : N ∈ b := by rw [hrb]; simp
  have hsp : spanP q.Span := hg.1.1.1.1.2
  have hkd : kindP q.Kind := hg.1.1.1.1.1.2
  have hs2 := hsp
  unfold spanP at hs2
  obtain ⟨c0, c1, hc⟩ : ∃ c0 c1, cut = [c0, c1] := by
    match cut, hcl with
    | [c0, c1], _ => exact ⟨c0, c1, rfl⟩
  subst hc
  have u0 : 0 ≤ c0 ∧ c0 ≤ 65535 := hcu c0 (by simp)
  have u1 : 0 ≤ c1 ∧ c1 ≤ 65535 := hcu c1 (by simp)
  have w0 : IntKind.i64.wrap c0 = c0 := IntWalk.i64_in _ (show InI64 c0 by unfold InI64; omega)
  have w1 : IntKind.i64.wrap c1 = c1 := IntWalk.i64_in _ (show InI64 c1 by unfold InI64; omega)
  refine Tot.chk (by unfold InI64; omega) (Tot.bindeq (show idx [c0, c1] 0 = some c0 from rfl) ?_)
  rw [w0]
  obtain ⟨m0, hm0, g0, g1⟩ : ∃ m : Int, Int.tmod c0 (q.Span.To - q.Span.From) = m ∧ 0 ≤ m ∧ m < q.Span.To - q.Span.From := by
    rw [Int.tmod_eq_emod_of_nonneg u0.1]
    exact ⟨_, rfl, Int.emod_nonneg _ (by omega), Int.emod_lt_of_pos _ (by omega)⟩
  rw [hm0]
  refine Tot.chk (by omega) (Tot.chk (by unfold InI64; omega) (Tot.chk (by unfold InI64; omega) (Tot.bindeq (show idx [c0, c1] 1 = some c1 from rfl) ?_)))
  rw [w1]
  obtain ⟨m1, hm1, g2, g3⟩ : ∃ m : Int, Int.tmod c1 (q.Span.To - (q.Span.From + m0)) = m ∧ 0 ≤ m ∧ m < q.Span.To - (q.Span.From + m0) := by
    rw [Int.tmod_eq_emod_of_nonneg u1.1]
    exact ⟨_, rfl, Int.emod_nonneg _ (by omega), Int.emod_lt_of_pos _ (by omega)⟩
  rw [hm1]
  refine Tot.chk (by unfold InI64; omega) (Tot.chk (by omega) (Tot.chk (by unfold InI64; omega) ?_))
  obtain ⟨S, hS⟩ : ∃ S : api_Span, S = ⟨q.Span.From + m0, q.Span.From + m0 + 1 + m1⟩ := ⟨_, rfl⟩
  rw [← hS]
  have hSp : spanP S := by rw [hS]; unfold spanP; dsimp only; omega
  have hNspan : N.Span = q.Span := by rw [hN]
  have hSin : N.Span.From ≤ S.From ∧ S.To ≤ N.Span.To := by rw [hNspan, hS]; dsimp only; omega
  have hNb1 : hadB q.Client q.Ino q.Kind N = true := by rw [hN]; unfold hadB; simp
  have hNb2 : hadB q.Client q.Ino 1 N = true := by
    rw [hN]; unfold hadB
    rcases hkd with h | h <;> simp [h]
  have hSf : InS S S.From := by
    unfold InS
    rw [hS]; dsimp only; omega
  refine Tot.bind (R := (· = false)) ?_ fun v2 hv2 => ?_
  · refine Tot.bindeq (has_yes (by omega) hsp hkd N hNb hNb1 (by rw [hNspan]; exact ⟨Int.le_refl _, Int.le_refl _⟩)) ?_
    refine Tot.bind (R := (· = false)) (Tot.ncond (by decide) (Tot.bindeq (has_yes (by omega) hSp hkd N hNb hNb1 hSin) (Tot.ret rfl))) fun c hc => ?_
    subst hc
    exact Tot.bind (R := (· = false)) (Tot.ncond (by decide) (Tot.bindeq (has_yes (by omega) hSp (.inl rfl) N hNb hNb2 hSin) (Tot.ret rfl))) fun _ h => Tot.ret h
  subst hv2
  refine Tot.ncond (by decide) (Tot.bindeq (p_Back b _ _ (by omega)) (Tot.chk (by unfold InI64; omega) (Tot.bindeq (p_Over b _ (by omega)) ?_)))
  have hov : b.filter (fun x => decide (x.Until > now + 128)) = [] := by
    rw [List.filter_eq_nil_iff]
    intro x hx
    have := (hTr.one x hx).2
    simp; omega
  have hbk : lease_Has (b.filter fun x => x.Client != q.Client || x.Ino != q.Ino) q.Client q.Ino 1 S = some false := by
    refine has_no (Nat.le_trans (List.length_filter_le _ _) (by omega)) S.From hSf fun x hx hb => ?_
    have h1 := (List.mem_filter.1 hx).2
    unfold hadB at hb
    simp only [Bool.and_eq_true, beq_iff_eq] at hb
    simp [hb.1, hb.2.1] at h1
  rw [hov]
  have hnil : lease_Has [] q.Client q.Ino 1 S = some false := has_no (by decide) S.From hSf fun x hx => by cases hx
  refine Tot.bind (R := (· = true)) ?_ fun _ h => Tot.ret h
  exact Tot.bindeq (a := true) (by rw [if_pos rfl, hbk]; rfl) (Tot.bindeq (a := true) (by rw [if_pos rfl, hnil]; rfl) (Tot.bindeq (a := true) rfl (Tot.ret rfl)))
end Go.Proofs
