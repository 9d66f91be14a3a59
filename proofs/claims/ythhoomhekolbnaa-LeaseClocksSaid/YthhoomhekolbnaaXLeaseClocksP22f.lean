/- Leases, plain: by all that clocks may show. No condition. -/
import Derived.Test.YthhoomhekolbnaaXLeaseClocksP22e
namespace Go.Proofs
set_option linter.all false
open Go Go.Cat
set_option linter.all false

theorem quo_i64 {a b : Int} (h0 : 0 ≤ a) (h1 : a ≤ 1000000000000) (hb : 0 < b) : quoK .i64 a b = a / b := by
  unfold quoK
  rw [Int.tdiv_eq_ediv_of_nonneg h0]
  have : a / b ≤ a := Int.ediv_le_self b h0
  have : 0 ≤ a / b := Int.ediv_nonneg h0 (by omega)
  exact IntWalk.i64_in _ (show InI64 (a / b) by unfold InI64; omega)
theorem p_Least {x : Int} (h : 0 ≤ x ∧ x ≤ 1000000) : clock_Least x = some (x * 999 / 1000) := by
  unfold clock_Least clock_within clock_span_least
  have e : min (max x 0) 2199023255552 = x := by omega
  rw [Option.bind_some, e, chk_pos (by unfold InI64; omega), quo_i64 (by omega) (by omega) (by decide)]; rfl
theorem p_Most {x : Int} (h : 0 ≤ x ∧ x ≤ 1000000) : clock_Most x = some ((x * 1001 + 1000 - 1) / 1000) := by
  unfold clock_Most clock_within clock_span_most
  have e : min (max x 0) 2199023255552 = x := by omega
  rw [Option.bind_some, e, chk_pos (by unfold InI64; omega), chk_pos (by unfold InI64; omega), chk_pos (by unfold InI64; omega), quo_i64 (by omega) (by omega) (by decide)]; rfl

/-- Real times: they rise, and are few. -/
structure RealP (r : List Int) : Prop where
  up : r.Pairwise (· ≤ ·)
  lo : ∀ x, x ∈ r → 0 ≤ x ∧ x ≤ 3000
  len : r.length ≤ 13
theorem t_reals (g : List Int) (hg : ∀ x, x ∈ g → 0 ≤ x ∧ x ≤ 65535) (hl : g.length ≤ 12) : Tot (law22_LeaseClocks_L1 g (0, [0])) (fun r => RealP r ∧ r.length = g.length + 1) := by
  unfold law22_LeaseClocks_L1
  refine Tot.loop (fun s : Int × List Int => ∃ n : Nat, s.1 = n ∧ n ≤ g.length ∧ s.2.length = n + 1 ∧ s.2.Pairwise (· ≤ ·) ∧ ∀ x, x ∈ s.2 → 0 ≤ x ∧ x ≤ 199 * n) (fun s => ((g.length : Int) - s.1).toNat) ?_ _ ⟨0, rfl, Nat.zero_le _, rfl, List.pairwise_singleton _ _, fun x hx => by rw [List.mem_singleton.1 hx]; decide⟩
  rintro ⟨s, a⟩ ⟨n, e, g1, g2, g3, g4⟩
  dsimp only at e g2 g3 g4
  subst e
  unfold law22_LeaseClocks_B1
  refine Tot.ite (fun hlt => ?_) fun hge => Tot.out (Tot.ret ?_)
  · have hlt : n < g.length := by simpa using hlt
    have hy := getLt (l := a) (n := n) (by omega)
    have hx := getLt hlt
    generalize a[n] = y at hy
    generalize g[n] = x at hx
    have hxb := hg x (List.mem_of_getElem? hx)
    have hyb := g4 y (List.mem_of_getElem? hy)
    have w1 : IntKind.i64.wrap x = x := IntWalk.i64_in _ (show InI64 x by unfold InI64; omega)
    refine Tot.bindeq (idx_some hy) (Tot.bindeq (idx_some hx) ?_)
    rw [w1]
    obtain ⟨t, ht, ht0⟩ : ∃ t : Int, Int.tmod x 200 = t ∧ 0 ≤ t ∧ t ≤ 199 := by
      rw [Int.tmod_eq_emod_of_nonneg hxb.1]
      exact ⟨_, rfl, by omega, by omega⟩
    rw [ht]
    refine Tot.chk (by unfold InI64; omega) (Tot.chk (by simp; omega) (Tot.chk (by unfold InI64; dsimp only; omega) (Tot.inl ⟨⟨n + 1, rfl, hlt, by simp; omega, ?_, fun z hz => ?_⟩, by dsimp only; omega⟩)))
    · refine List.pairwise_append.2 ⟨g3, List.pairwise_singleton _ _, fun z hz w hw => ?_⟩
      rw [List.mem_singleton.1 hw]
      obtain ⟨k, hk⟩ := memR hz
      have hkl : k < a.length := (getR hk).1
      have := rise_idx g3 hk hy (by omega)
      omega
    · rcases List.mem_append.1 hz with h | h
      · have := g4 z h; omega
      · rw [List.mem_singleton.1 h]; omega
  · have : n = g.length := by have : ¬ n < g.length := by simpa using hge
                              omega
    subst this
    exact ⟨⟨g3, fun x hx => by have := g4 x hx; omega, by dsimp only; omega⟩, g2⟩

theorem t_Between (f t p : Int) (hf : 0 ≤ f ∧ f ≤ 5000000000000) (ht : t ≤ 4398046511104) (hp : 0 ≤ p ∧ p ≤ 65535) : Tot (law03_Between f t p) (fun r => 0 ≤ r ∧ r ≤ max f 4398046511104) := by
  unfold law03_Between
  refine Tot.ite (fun _ => Tot.ret (by omega)) fun hlt => ?_
  have hlt : f < t := by simpa using hlt
  have w1 : IntKind.u64.wrap (t - f + 1) = t - f + 1 := by rw [IntKind.wrap_u64]; omega
  rw [w1]
  have m0 : Int.tmod p (t - f + 1) = p % (t - f + 1) := Int.tmod_eq_emod_of_nonneg hp.1
  have m1 := Int.emod_nonneg p (show t - f + 1 ≠ 0 by omega)
  have m2 := Int.emod_lt_of_pos p (show 0 < t - f + 1 by omega)
  rw [m0]
  generalize p % (t - f + 1) = m at m1 m2
  have w2 : IntKind.i64.wrap m = m := IntWalk.i64_in _ (show InI64 m by unfold InI64; omega)
  rw [w2]
  exact Tot.chk (by unfold InI64; omega) (Tot.chk (by unfold InI64; omega) (Tot.chk (by omega) (Tot.chk (by unfold InI64; omega) (Tot.ret (by omega)))))
def ShowB (l : List Int) (n : Nat) : Prop := ∀ x, x ∈ l → 0 ≤ x ∧ x ≤ 4398046511104 + 4000 * n
theorem t_Shows (r p : List Int) (hr : RealP r) (hp : ∀ x, x ∈ p → 0 ≤ x ∧ x ≤ 65535) : Tot (law03_Shows r p) (fun s => s.length = r.length ∧ ShowB s 13) := by
  have hrl := hr.len
  unfold law03_Shows law03_Shows_L1
  refine Tot.bind (R := fun s => s.length = r.length ∧ ShowB s 13) (Tot.loop (fun s : Int × List Int => ∃ n : Nat, s.1 = n ∧ n ≤ r.length ∧ s.2.length = n ∧ ShowB s.2 n) (fun s => ((r.length : Int) - s.1).toNat) ?_ _ ⟨0, rfl, Nat.zero_le _, rfl, fun x hx => by cases hx⟩) fun _ h => Tot.ret h
  rintro ⟨s, a⟩ ⟨n, e, g1, g2, g3⟩
  dsimp only at e g2 g3
  subst e
  unfold law03_Shows_B1
  refine Tot.ite (fun hlt => ?_) fun hge => Tot.out (Tot.ret ?_)
  · have hlt : n < r.length := by simpa using hlt
    refine Tot.bind (R := fun v : List Int => v.length = n + 1 ∧ ShowB v (n + 1)) (Tot.ite (fun _ => Tot.chk (by simp; omega) (Tot.ret ⟨by simp [g2], fun x hx => ?_⟩)) fun hn0 => ?_) fun v hv => Tot.chk (by unfold InI64; dsimp only; omega) (Tot.inl ⟨⟨n + 1, rfl, hlt, hv⟩, by dsimp only; omega⟩)
    · rcases List.mem_append.1 hx with h | h
      · have := g3 x h; omega
      · rw [List.mem_singleton.1 h]; omega
    · have hx := getLt hlt
      generalize r[n] = x at hx
      have hxb := hr.lo x (List.mem_of_getElem? hx)
      refine Tot.bind (R := fun v : Int × Int => 0 ≤ v.1 ∧ v.1 ≤ 4398046511104 + 4000 * n + 3000 ∧ v.2 ≤ 4398046511104) ?_ fun v hv => ?_
      · unfold law03_Shows_L2
        refine Tot.loop (fun q : Int × Int × Int => ∃ k : Nat, q.2.2 = k ∧ k ≤ n ∧ 0 ≤ q.1 ∧ q.1 ≤ 4398046511104 + 4000 * n + 3000 ∧ q.2.1 ≤ 4398046511104) (fun q => ((n : Int) - q.2.2).toNat) ?_ _ ⟨0, rfl, Nat.zero_le _, by decide, by dsimp only; omega, by decide⟩
        rintro ⟨f, t, q⟩ ⟨k, e, k1, k2, k3, k4⟩
        dsimp only at e k2 k3 k4
        subst e
        unfold law03_Shows_B2
        refine Tot.ite (fun hkl => ?_) fun _ => Tot.out (Tot.ret ⟨k2, k3, k4⟩)
        have hkl : k < n := by simpa using hkl
        have ha := getLt (l := a) (n := k) (by omega)
        have hb := getLt (l := r) (n := k) (by omega)
        generalize a[k] = y at ha
        generalize r[k] = z at hb
        have hyb := g3 y (List.mem_of_getElem? ha)
        have hzb := hr.lo z (List.mem_of_getElem? hb)
        have hzx := rise_idx hr.up hb hx (by omega)
        exact Tot.bindeq (idx_some ha) (Tot.bindeq (idx_some hx) (Tot.bindeq (idx_some hb) (Tot.chk (by unfold InI64; omega) (Tot.bindeq (p_Least (by omega)) (Tot.chk (by unfold InI64; omega) (Tot.bindeq (idx_some ha) (Tot.bindeq (idx_some hx) (Tot.bindeq (idx_some hb) (Tot.chk (by unfold InI64; omega) (Tot.bindeq (p_Most (by omega)) (Tot.chk (by unfold InI64; omega) (Tot.chk (by unfold InI64; dsimp only; omega) (Tot.inl ⟨⟨k + 1, rfl, hkl, by dsimp only; omega, by dsimp only; omega, by dsimp only; omega⟩, by dsimp only; omega⟩)))))))))))))
      · refine Tot.bind (R := fun p : Int => 0 ≤ p ∧ p ≤ 65535) (Tot.ite (fun hpl => ?_) fun _ => Tot.ret (by decide)) fun pk hpk => ?_
        · have hpl : n < p.length := by simpa using hpl
          have hq := getLt hpl
          generalize p[n] = z at hq
          have hzb := hp z (List.mem_of_getElem? hq)
          exact Tot.bindeq (idx_some hq) (Tot.ret (by rw [IntKind.wrap_u64]; omega))
        · refine Tot.bind (t_Between v.1 v.2 pk (by omega) hv.2.2 hpk) fun z hz => Tot.chk (by simp; omega) (Tot.ret ⟨by simp [g2], fun w hw => ?_⟩)
          rcases List.mem_append.1 hw with h | h
          · have := g3 w h; omega
          · rw [List.mem_singleton.1 h]; omega
  · have : n = r.length := by have : ¬ n < r.length := by simpa using hge
                              omega
    subst this
    exact ⟨g2, fun x hx => by have := g3 x hx; omega⟩

/-- What is shown between two readings is what a clock may show. -/
def FitsC (r s : List Int) : Prop := r.length = s.length ∧ ∀ (i k : Nat) ri rk si sk, k < i → r[i]? = some ri → r[k]? = some rk → s[i]? = some si → s[k]? = some sk → (ri - rk) * 999 / 1000 ≤ si - sk ∧ si - sk ≤ ((ri - rk) * 1001 + 1000 - 1) / 1000
theorem t_Right22 (r s : List Int) (hr : RealP r) (hs : ShowB s 13) : Tot (clock_Right r s) (fun b => b = true → FitsC r s) := by
  unfold clock_Right
  refine Tot.ite (fun _ => Tot.ret fun e => by cases e) fun hl => ?_
  have hl : r.length = s.length := by simp at hl; omega
  have hrl := hr.len
  unfold clock_Right_L1
  refine Tot.loop (fun q : Int => ∃ n : Nat, q = n ∧ n ≤ r.length ∧ ∀ (i k : Nat) ri rk si sk, i < n → k < i → r[i]? = some ri → r[k]? = some rk → s[i]? = some si → s[k]? = some sk → (ri - rk) * 999 / 1000 ≤ si - sk ∧ si - sk ≤ ((ri - rk) * 1001 + 1000 - 1) / 1000) (fun q => ((r.length : Int) - q).toNat) ?_ 0 ⟨0, rfl, Nat.zero_le _, fun i k _ _ _ _ h => by omega⟩
  rintro q ⟨n, rfl, g1, g2⟩
  unfold clock_Right_B1 clock_Right_J1
  refine Tot.ite (fun hlt => ?_) fun hge => Tot.out (Tot.ret fun _ => ⟨hl, fun i k ri rk si sk h h1 => g2 i k ri rk si sk (by
    have := (getR h1).1
    have : ¬ n < r.length := by simpa using hge
    omega) h h1⟩)
  have hlt : n < r.length := by simpa using hlt
  have hx := getLt hlt
  have hy := getLt (l := s) (n := n) (by omega)
  generalize r[n] = x at hx
  generalize s[n] = y at hy
  have hxb := hr.lo x (List.mem_of_getElem? hx)
  have hyb := hs y (List.mem_of_getElem? hy)
  refine Tot.bindeq (idx_some hx) (Tot.bind (R := fun _ => True) (Tot.bind (R := fun _ => True) (Tot.ite (fun _ => Tot.ret trivial) fun _ => Tot.ret trivial) fun c1 _ => Tot.bind (R := fun _ => True) (Tot.ite (fun _ => Tot.ret trivial) fun _ => Tot.bindeq (idx_some hy) (Tot.ret trivial)) fun c2 _ => Tot.bind (R := fun _ => True) (Tot.ite (fun _ => Tot.ret trivial) fun _ => Tot.bindeq (idx_some hy) (Tot.ret trivial)) fun _ _ => Tot.ret trivial) fun v _ => Tot.ite (fun _ => Tot.out (Tot.ret fun e => by cases e)) fun _ => ?_)
  unfold clock_Right_L2
  refine Tot.loop (fun q : Int => ∃ k : Nat, q = k ∧ k ≤ n ∧ ∀ (j : Nat) rj sj, j < k → r[j]? = some rj → s[j]? = some sj → (x - rj) * 999 / 1000 ≤ y - sj ∧ y - sj ≤ ((x - rj) * 1001 + 1000 - 1) / 1000) (fun q => ((n : Int) - q).toNat) ?_ 0 ⟨0, rfl, Nat.zero_le _, fun j _ _ h => by omega⟩
  rintro q ⟨k, rfl, k1, k2⟩
  unfold clock_Right_B2 clock_Right_J2
  refine Tot.ite (fun hkl => ?_) fun hkg => Tot.out (Tot.chk (by unfold InI64; omega) (Tot.inl ⟨⟨n + 1, rfl, hlt, fun i j ri rj si sj hi hj h1 h2 h3 h4 => ?_⟩, by omega⟩))
  · have hkl : k < n := by simpa using hkl
    have hz := getLt (l := r) (n := k) (by omega)
    have hw := getLt (l := s) (n := k) (by omega)
    generalize r[k] = z at hz
    generalize s[k] = w at hw
    have hzb := hr.lo z (List.mem_of_getElem? hz)
    have hwb := hs w (List.mem_of_getElem? hw)
    have hzx := rise_idx hr.up hz hx (by omega)
    refine Tot.bindeq (idx_some hz) (Tot.chk (by unfold InI64; omega) (Tot.bindeq (idx_some hy) (Tot.bindeq (idx_some hw) (Tot.chk (by unfold InI64; omega) ?_))))
    refine Tot.bind (R := Tells ((x - z < 0 ∨ y - w < (x - z) * 999 / 1000) ∨ ((x - z) * 1001 + 1000 - 1) / 1000 < y - w)) (Tot.bind (R := Tells (x - z < 0 ∨ y - w < (x - z) * 999 / 1000)) (Tot.orI (by simp) fun _ => Tot.bindeq (p_Least (by omega)) (Tot.dec (by omega))) fun c h => Tot.bind (Tot.orI h fun _ => Tot.bindeq (p_Most (by omega)) (Tot.dec (by omega))) fun _ h => Tot.ret h) fun v hv => Tot.ite (fun _ => Tot.out (Tot.out (Tot.ret fun e => by cases e))) fun hf => Tot.chk (by unfold InI64; omega) (Tot.inl ⟨⟨k + 1, rfl, hkl, fun j rj sj hj h1 h2 => ?_⟩, by omega⟩)
    have hno : ¬ ((x - z < 0 ∨ y - w < (x - z) * 999 / 1000) ∨ ((x - z) * 1001 + 1000 - 1) / 1000 < y - w) := fun h => hf (hv.2 h)
    rcases Nat.lt_or_ge j k with h | h
    · exact k2 j rj sj h h1 h2
    · have : j = k := by omega
      subst this
      rw [hz] at h1; rw [hw] at h2
      cases h1; cases h2
      omega
  · have hkg : k = n := by have : ¬ k < n := by simpa using hkg
                           omega
    rcases Nat.lt_or_ge i n with h | h
    · exact g2 i j ri rj si sj h hj h1 h2 h3 h4
    · have : i = n := by omega
      subst this
      rw [hx] at h1; rw [hy] at h3
      cases h1; cases h3
      exact k2 j rj sj (by omega) h2 h4
end Go.Proofs
