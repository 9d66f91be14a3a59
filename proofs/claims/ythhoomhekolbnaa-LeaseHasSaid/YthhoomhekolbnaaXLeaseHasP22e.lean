/- Leases, plain: no two clash. No condition. -/
import Derived.Test.YthhoomhekolbnaaXLeaseHasP22d
namespace Go.Proofs
set_option linter.all false
open Go Go.Cat
set_option linter.all false

/-- What steps come to. -/
structure TabP (a : List api_Lease) (now : Int) (n : Nat) : Prop where
  len : a.length ≤ n
  t0 : 0 ≤ now
  t1 : now ≤ 1000 * n
  one : ∀ x, x ∈ a → oneP x ∧ x.Until ≤ now + 66
  sep : a.Pairwise fun x y => clashB x y = false ∧ clashB y x = false
theorem clash_comm (a b : api_Lease) : clashB a b = clashB b a := by
  unfold clashB
  have h1 : (a.Client != b.Client) = (b.Client != a.Client) := bne_comm
  have h2 : (a.Ino == b.Ino) = (b.Ino == a.Ino) := BEq.comm
  have h3 : (a.Kind == 2 || b.Kind == 2) = (b.Kind == 2 || a.Kind == 2) := Bool.or_comm _ _
  have h4 : decide (max a.Span.From b.Span.From < min a.Span.To b.Span.To) = decide (max b.Span.From a.Span.From < min b.Span.To a.Span.To) := decide_eq_decide.2 (by omega)
  rw [h1, h2, h3, h4]
theorem clash_cong {x q q' : api_Lease} (h1 : q.Client = q'.Client) (h2 : q.Ino = q'.Ino) (h3 : q.Kind = q'.Kind) (h4 : q.Span = q'.Span) : clashB x q = clashB x q' := by
  unfold clashB; rw [h1, h2, h3, h4]
theorem TabP.sub {a b : List api_Lease} {now : Int} {n m : Nat} (h : TabP a now n) (hs : b.Sublist a) (hm : n ≤ m) : TabP b now m :=
  ⟨Nat.le_trans hs.length_le (Nat.le_trans h.len hm), h.t0, by have := h.t1; omega, fun x hx => h.one x (hs.subset hx), h.sep.sublist hs⟩
theorem kept_sub (l : List api_Lease) (now : Int) (q : api_Lease) : (keptN l now q).Sublist l := List.Sublist.trans List.filter_sublist List.filter_sublist
theorem TabP.ask {a : List api_Lease} {now : Int} {n : Nat} (h : TabP a now n) (hn : n ≤ 40) {q : api_Lease} {many : Int} {r : List api_Lease × Bool × List Int} (hr : AskP a now q many r) : TabP r.1 now (n + 1) := by
  by_cases hg : oneP (q0 q) ∧ 1 ≤ many ∧ many ≤ 64
  · by_cases hw : whoN a now q = []
    · rcases Nat.lt_or_ge (keptN a now q).length 64 with h64 | h64
      · have e := hr.yes hg hw h64
        subst e
        have hk := h.sub (kept_sub a now q) (Nat.le_refl n)
        refine ⟨by have := hk.len; simp; omega, h.t0, by have := h.t1; omega, fun x hx => ?_, ?_⟩
        · rcases List.mem_append.1 hx with hx | hx
          · exact hk.one x hx
          · rw [List.mem_singleton.1 hx]
            have ho := hg.1
            have := h.t0
            have := h.t1
            exact ⟨⟨⟨⟨ho.1.1.1, by dsimp only; omega⟩, by dsimp only; omega⟩, ho.2⟩, by dsimp only; omega⟩
        · refine List.pairwise_append.2 ⟨hk.sep, List.pairwise_singleton _ _, fun x hx y hy => ?_⟩
          rw [List.mem_singleton.1 hy]
          have hxo : x ∈ overN a now := (List.mem_filter.1 hx).1
          have hno : clashB x (q0 q) = false := by
            unfold whoN at hw
            rw [List.map_eq_nil_iff, List.filter_eq_nil_iff] at hw
            simpa using hw x hxo
          have e1 : clashB x ⟨q.Client, q.Ino, q.Kind, q.Span, now + (many + 2), q.Epoch⟩ = false := (clash_cong rfl rfl rfl rfl).trans hno
          exact ⟨e1, by rw [clash_comm]; exact e1⟩
      · rw [hr.full hg hw h64]
        exact h.sub List.filter_sublist (by omega)
    · rw [(hr.no hg hw).1]
      exact h.sub List.filter_sublist (by omega)
  · rw [hr.bad hg]
    exact h.sub (List.Sublist.refl _) (by omega)
theorem t_table (l : List law22_Step) (hl : l.length ≤ 40) : Tot (law22_table l) (fun r => TabP r.1 r.2.1 l.length ∧ r.2.2 = true) := by
  unfold law22_table
  refine Tot.ncond (by simp; omega) (Tot.bind (R := fun v : List api_Lease × Int => TabP v.1 v.2 l.length) ?_ fun v hv => Tot.ret ⟨hv, rfl⟩)
  unfold law22_table_L1
  refine Tot.loop (fun s : List api_Lease × Int × Int => ∃ n : Nat, s.2.2 = n ∧ n ≤ l.length ∧ TabP s.1 s.2.1 n) (fun s => ((l.length : Int) - s.2.2).toNat) ?_ _ ⟨0, rfl, Nat.zero_le _, ⟨Nat.le_refl _, Int.le_refl _, by dsimp only; omega, fun x hx => (by cases hx), List.Pairwise.nil⟩⟩
  rintro ⟨a, now, s⟩ ⟨n, e, g1, g2⟩
  dsimp only at e g2
  subst e
  unfold law22_table_B1
  have t0 := g2.t0
  have t1 := g2.t1
  have tl := g2.len
  refine Tot.ite (fun hlt => ?_) fun hge => Tot.out (Tot.ret ?_)
  · have hlt : n < l.length := by simpa using hlt
    have hx := getLt hlt
    generalize l[n] = x at hx
    refine Tot.bind (R := fun v : List api_Lease × Int => TabP v.1 v.2 (n + 1)) (Tot.bindeq (idx_some hx) ?_) fun v hv => Tot.chk (by unfold InI64; dsimp only; omega) (Tot.inl ⟨⟨n + 1, rfl, hlt, hv⟩, by dsimp only; omega⟩)
    refine Tot.ite (fun _ => Tot.bind (t_Ask a now x.Q x.Many (by omega) (by omega)) fun r hr => Tot.ret (g2.ask (by omega) hr)) fun _ => Tot.ite (fun _ => Tot.bindeq (p_Back a _ _ (by omega)) (Tot.ret (g2.sub List.filter_sublist (by omega)))) fun _ => Tot.ite (fun _ => ?_) fun _ => Tot.bindeq (p_Over a _ (by omega)) (Tot.ret (g2.sub List.filter_sublist (by omega)))
    refine Tot.bind (R := Tells (0 < x.Many ∧ x.Many < 1000)) (Tot.bind (Tot.andI (by simp) fun _ => Tot.dec (by omega)) fun _ h => Tot.ret h) fun v hv => Tot.ite (fun ht => ?_) fun _ => Tot.ret (g2.sub (List.Sublist.refl _) (by omega))
    have hm := hv.1 ht
    refine Tot.chk (by unfold InI64; dsimp only; omega) (Tot.ret ⟨by dsimp only; omega, by dsimp only; omega, by dsimp only; omega, fun y hy => ?_, g2.sep⟩)
    have := g2.one y hy
    exact ⟨this.1, by dsimp only; omega⟩
  · have : n = l.length := by have : ¬ n < l.length := by simpa using hge
                              omega
    subst this; exact g2
end Go.Proofs
