/- Leases, plain: no two clash. No condition. -/
import Derived.Test.YthhoomhekolbnaaXLeaseApartP22d
namespace Go.Proofs
set_option linter.all false
open Go Go.Cat
set_option linter.all false

/-- What steps come to. -/
structure TabP (a : List api_Lease) (now : Int) (n : Nat) : Prop where
  len : a.length ≤ n
  t0 : 0 ≤ now
  t1 : now ≤ 1000 * n
  one : ∀ x, x ∈ a → oneP x ∧ x.Until ≤ now + 66
  sep : a.Pairwise fun x y => clashB x y = false ∧ clashB y x = false
theorem clash_comm (a b : api_Lease) : clashB a b = clashB b a := by
  unfold clashB
  have h1 : (a.Client != b.Client) = (b.Client != a.Client) := bne_comm
  have h2 : (a.Ino == b.Ino) = (b.Ino == a.Ino) := BEq.comm
  have h3 : (a.Kind == 2 || b.Kind == 2) = (b.Kind == 2 || a.Kind == 2) := Bool.or_comm _ _
  have h4 : decide (max a.Span.From b.Span.From < min a.Span.To b.Span.To) = decide (max b.Span.From a.Span.From < min b.Span.To a.Span.To) := decide_eq_decide.2 (by omega)
  rw [h1, h2, h3, h4]
theorem clash_cong {x q q' : api_Lease} (h1 : q.Client = q'.Client) (h2 : q.Ino = q'.Ino) (h3 : q.Kind = q'.Kind) (h4 : q.Span = q'.Span) : clashB x q = clashB x q' := by
  unfold clashB; rw [h1, h2, h3, h4]
theorem TabP.sub {a b : List api_Lease} {now : Int} {n m : Nat} (h : TabP a now n) (hs : b.Sublist a) (hm : n ≤ m) : TabP b now m :=
  ⟨Nat.le_trans hs.length_le (Nat.le_trans h.len hm), h.t0, by have := h.t1; omega, fun x hx => h.one x (hs.subset hx), h.sep.sublist hs⟩
theorem kept_sub (l : List api_Lease) (now : Int) (q : api_Lease) : (keptN l now q).Sublist l := List.Sublist.trans List.filter_sublist List.filter_sublist
theorem TabP.ask {a : List api_Lease} {now : Int} {n : Nat} (h : TabP a now n) (hn : n ≤ 40) {q : api_Lease} {many : Int} {r : List api_Lease × Bool × List Int} (hr : AskP a now q many r) : TabP r.1 now (n + 1) := by
  by_cases hg : oneP (q0 q) ∧ 1 ≤ many ∧ many ≤ 64
  · by_cases hw : whoN a now q = []
    · rcases Nat.lt_or_ge (keptN a now q).length 64 with h64 | h64
      · have e := hr.yes hg hw h64
        subst e
        have hk := h.sub (kept_sub a now q) (Nat.le_refl n)
        refine ⟨by have := hk.len; simp; omega, h.t0, by have := h.t1; omega, fun x hx => ?_, ?_⟩
        · rcases List.mem_append.1 hx with hx | hx
          · exact hk.one x hx
          · rw [List.mem_singleton.1 hx]
            have ho := hg.1
            have := h.t0
            have := h.t1
            exact ⟨⟨⟨⟨ho.1.1.1, by dsimp only; omega⟩, by dsimp only; omega⟩, ho.2⟩, by dsimp only; omega⟩
        · refine List.pairwise_append.2 ⟨hk.sep, List.pairwise_singleton _ _, fun x hx y hy => ?_⟩
          rw [List.mem_singleton.1 hy]
          have hxo : x ∈ overN a now := (List.mem_filter.1 hx).1
          have hno : clashB x (q0 q) = false := by
            unfold whoN at hw
            rw [List.map_eq_nil_iff, List.filter_eq_nil_iff] at hw
            simpa using hw x hxo
          have e1 : clashB x ⟨q.Client, q.Ino, q.Kind, q.Span, now + (many + 2), q.Epoch⟩ = false := (clash_cong rfl rfl rfl rfl).trans hno
          exact ⟨e1, by rw [clash_comm]; exact e1⟩
      · rw [hr.full hg hw h64]
        exact h.sub List.filter_sublist (by omega)
    · rw [(hr.no hg hw).1]
      exact h.sub List.filter_sublist (by omega)
  · rw [hr.bad hg]
    exact h.sub (List.Sublist.refl _) (by omega)
theorem t_table (l : List law22_Step) (hl : l.length ≤ 40) : Tot (law22_table l) (fun r => TabP r.1 r.2.1 l.length ∧ r.2.2 = true) := by
  unfold law22_table
  refine Tot.ncond (by simp; omega) (Tot.bind (R := fun v : List api_Lease × Int => TabP v.1 v.2 l.length) ?_ fun v hv => Tot.ret ⟨hv, rfl⟩)
  unfold law22_table_L1
  refine Tot.loop (fun s : List api_Lease × Int × Int => ∃ n : Nat, s.2.2 = n ∧ n ≤ l.length ∧ TabP s.1 s.2.1 n) (fun s => ((l.length : Int) - s.2.2).toNat) ?_ _ ⟨0, rfl, Nat.zero_le _, ⟨Nat.le_refl _, Int.le_refl _, by dsimp only; omega, fun x hx => (by cases hx), List.Pairwise.nil⟩⟩
  rintro ⟨a, now, s⟩ ⟨n, e, g1, g2⟩
  dsimp only at e g2
  subst e
  unfold law22_table_B1
  have t0 := g2.t0
  have t1 := g2.t1
  have tl := g2.len
  refine Tot.ite (fun hlt => ?_) fun hge => Tot.out (Tot.ret ?_)
  · have hlt : n < l.length := by simpa using hlt
    have hx := getLt hlt
    generalize l[n] = x at hx
    refine Tot.bind (R := fun v : List api_Lease × Int => TabP v.1 v.2 (n + 1)) (Tot.bindeq (idx_some hx) ?_) fun v hv => Tot.chk (by unfold InI64; dsimp only; omega) (Tot.inl ⟨⟨n + 1, rfl, hlt, hv⟩, by dsimp only; omega⟩)
    refine Tot.ite (fun _ => Tot.bind (t_Ask a now x.Q x.Many (by omega) (by omega)) fun r hr => Tot.ret (g2.ask (by omega) hr)) fun _ => Tot.ite (fun _ => Tot.bindeq (p_Back a _ _ (by omega)) (Tot.ret (g2.sub List.filter_sublist (by omega)))) fun _ => Tot.ite (fun _ => ?_) fun _ => Tot.bindeq (p_Over a _ (by omega)) (Tot.ret (g2.sub List.filter_sublist (by omega)))
    refine Tot.bind (R := Tells (0 < x.Many ∧ x.Many < 1000)) (Tot.bind (Tot.andI (by simp) fun _ => Tot.dec (by omega)) fun _ h => Tot.ret h) fun v hv => Tot.ite (fun ht => ?_) fun _ => Tot.ret (g2.sub (List.Sublist.refl _) (by omega))
    have hm := hv.1 ht
    refine Tot.chk (by unfold InI64; dsimp only; omega) (Tot.ret ⟨by dsimp only; omega, by dsimp only; omega, by dsimp only; omega, fun y hy => ?_, g2.sep⟩)
    have := g2.one y hy
    exact ⟨this.1, by dsimp only; omega⟩
  · have : n = l.length := by have : ¬ n < l.length := by simpa using hge
                              omega
    subst this; exact g2
theorem l_LeaseApart (l : List law22_Step) : law22_LeaseApart l = some true := by
  refine Tot.eq ?_
  unfold law22_LeaseApart
  refine Tot.bindeq p_head22 ?_
  unfold law22_LeaseApart_L1
  refine Tot.loop (fun s : Int => 0 ≤ s ∧ s ≤ 41) (fun s => (41 - s).toNat) ?_ 0 ⟨by decide, by decide⟩
  rintro s ⟨g0, g1⟩
  unfold law22_LeaseApart_B1 law22_LeaseApart_J1
  refine Tot.bind (R := Tells (s ≤ (l.length : Int) ∧ s ≤ 40)) (Tot.bind (Tot.andI (by simp) fun _ => Tot.dec (by omega)) fun _ h => Tot.ret h) fun v hv => Tot.ite (fun ht => ?_) fun _ => Tot.out (Tot.ret rfl)
  obtain ⟨hs1, hs2⟩ := hv.1 ht
  have htl : (l.take s.toNat).length = s.toNat := by simp; omega
  refine Tot.chk (by omega) (Tot.bind (t_table (l.take s.toNat) (by omega)) fun r hr => ?_)
  obtain ⟨a, now, is⟩ := r
  obtain ⟨hT, his⟩ := hr
  dsimp only at hT his
  subst his
  rw [htl] at hT
  have tl := hT.len
  have t0 := hT.t0
  have t1 := hT.t1
  refine Tot.bind (R := (· = false)) ?_ fun v2 hv2 => ?_
  · refine Tot.bind (R := (· = false)) (Tot.ncond (by simp) (Tot.bindeq (t_right a (by omega) ⟨fun x hx => (hT.one x hx).1, hT.sep.imp fun h => h.2⟩) (Tot.ret rfl))) fun c hc => ?_
    subst hc
    exact Tot.bind (R := (· = false)) (Tot.ncond (by decide) (Tot.ret (by simp; omega))) fun _ h => Tot.ret h
  subst hv2
  refine Tot.ncond (by decide) ?_
  have hout : Tot (law22_LeaseApart_J2 s ()) (RdP (fun s' : Int => (0 ≤ s' ∧ s' ≤ 41) ∧ (41 - s').toNat < (41 - s).toNat) (· = true)) := by
    unfold law22_LeaseApart_J2
    exact Tot.chk (by unfold InI64; omega) (Tot.inl ⟨⟨by omega, by omega⟩, by omega⟩)
  unfold law22_LeaseApart_L2
  refine Tot.loop (fun q : Int => 0 ≤ q ∧ q ≤ (a.length : Int)) (fun q => ((a.length : Int) - q).toNat) ?_ 0 ⟨by simp, by simp⟩
  rintro q ⟨q0, q1⟩
  unfold law22_LeaseApart_B2
  refine Tot.ite (fun hlq => ?_) fun _ => Tot.out hout
  have hlq : q < a.length := by simpa using hlq
  refine Tot.bind (Tot.idx q0 hlq (Q := fun y => a[q.toNat]? = some y) fun _ h => h) fun x hx => Tot.bindeq (p_Wait (by decide)) (Tot.chk (by unfold InI64; dsimp only; omega) ?_)
  have hxu := (hT.one x (List.mem_of_getElem? hx)).2
  refine Tot.ncond (by simp; omega) ?_
  unfold law22_LeaseApart_L3
  refine Tot.loop (fun k : Int => 0 ≤ k ∧ k ≤ q) (fun k => (q - k).toNat) ?_ 0 ⟨by simp, q0⟩
  rintro k ⟨k0, k1⟩
  unfold law22_LeaseApart_B3 law22_LeaseApart_J3
  refine Tot.ite (fun hlk => ?_) fun _ => Tot.out (Tot.chk (by unfold InI64; omega) (Tot.inl ⟨⟨by omega, by omega⟩, by omega⟩))
  have hlk : k < q := by simpa using hlk
  have hix : idx a q = some x := by unfold idx; rw [if_pos q0]; exact hx
  refine Tot.bindeq hix (Tot.bind (Tot.idx k0 (by dsimp only; omega) (Q := fun y => a[k.toNat]? = some y) fun _ h => h) fun y hy => Tot.bindeq (p_rClash x y) (Tot.ncond ?_ (Tot.chk (by unfold InI64; omega) (Tot.inl ⟨⟨by omega, by omega⟩, by omega⟩))))
  obtain ⟨hk1, ey⟩ := List.getElem?_eq_some_iff.1 hy
  obtain ⟨hq1, ex⟩ := List.getElem?_eq_some_iff.1 hx
  have := List.pairwise_iff_getElem.1 hT.sep k.toNat q.toNat hk1 hq1 (by omega)
  rw [ex, ey] at this
  rw [this.2]; decide
end Go.Proofs
