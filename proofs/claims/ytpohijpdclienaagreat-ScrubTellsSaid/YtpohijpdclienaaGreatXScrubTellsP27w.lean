/- Scrubbing, plain: which chains are right, as the program reckons it. No condition. -/
import Derived.Test.YtpohijpdclienaaGreatXScrubTellsP27n
namespace Go.Proofs
set_option linter.all false
open Go Go.Cat
set_option linter.all false
theorem adj_nodup {x : List Int} (hs : x.Pairwise (· ≤ ·)) (h : ∀ m, 1 ≤ m → m < x.length → x[m]? ≠ x[m - 1]?) : x.Nodup := by
 unfold List.Nodup
 rw [List.pairwise_iff_getElem] at hs ⊢
 intro i j hi hj hij e
 have h1 := h j (by omega) hj
 rw [List.getElem?_eq_getElem hj, List.getElem?_eq_getElem (by omega : j - 1 < x.length)] at h1
 have h2 := hs (j - 1) j (by omega) hj (by omega)
 have h3 : x[i] ≤ x[j - 1] := by
  by_cases e' : i = j - 1
  ·subst e'; exact Int.le_refl _
  ·exact hs i (j - 1) hi (by omega) (by omega)
 exact h1 (congrArg some (by omega))
theorem p_Compact {x : List Int} (hs : x.Pairwise (· ≤ ·)) (hl : x.length ≤ 100000) : Tot (slicesN7 x) (fun r => (x.Nodup → r = x) ∧ (¬ x.Nodup → r.length < x.length)) := by
 unfold slicesN7
 refine Tot.ite (fun h => Tot.ret ⟨fun _ => rfl, fun hn => ?_⟩) fun h => ?_
 ·refine (hn (adj_nodup hs fun m h1 h2 => ?_)).elim
  simp at h; omega
 have h2 : 2 ≤ x.length := by simp at h; omega
 unfold slicesN15
 refine Tot.loop (fun s : Int => ∃ n : Nat, s = n ∧ 1 ≤ n ∧ n ≤ x.length ∧ ∀ m, 1 ≤ m → m < n → x[m]? ≠ x[m - 1]?) (fun s => x.length + 1 - s.toNat) ?_ 1 ⟨1, rfl, by omega, by omega, fun m h1 h2 => by omega⟩
 rintro _ ⟨n, rfl, hn1, hn2, hi⟩
 unfold slicesN9
 refine Tot.ite (fun hlt => ?_) fun hge => ?_
 ·have hlt : n < x.length := by simpa using hlt
  have e1 : x[n]? = some x[n] := List.getElem?_eq_getElem hlt
  have e2 : x[n - 1]? = some x[n - 1] := List.getElem?_eq_getElem (by omega)
  refine Tot.bindeq (idx_some e1) (Tot.chk (by unfold InI64; omega) (Tot.bindeq (a := x[n - 1]) (by rw [show (n : Int) - 1 = ((n - 1 : Nat) : Int) by omega]; exact idx_some e2) (Tot.ite (fun he => ?_) fun he => ?_)))
  ·have he : x[n] = x[n - 1] := by simpa using he
   have hnd : ¬ x.Nodup := fun hd => by
    unfold List.Nodup at hd
    rw [List.pairwise_iff_getElem] at hd
    exact hd (n - 1) n (by omega) hlt (by omega) he.symm
   refine Tot.chk ⟨by omega, by omega⟩ (Tot.bind (R := fun r => 0 ≤ r.1 ∧ r.1 < (x.length : Int) ∧ r.2.length = x.length) ?_ fun r hr => ?_)
   ·unfold slicesN17
    refine Tot.loop (fun s : Int × Int × List Int => ∃ k j : Nat, s.1 = k ∧ s.2.1 = j ∧ n ≤ k ∧ k + 1 ≤ n + j ∧ 1 ≤ j ∧ n + j ≤ x.length ∧ s.2.2.length = x.length) (fun s => x.length + 1 - s.2.1.toNat) ?_ (n, 1, x) ⟨n, 1, rfl, rfl, Nat.le_refl _, by omega, by omega, by omega, rfl⟩
    rintro ⟨_, _, h⟩ ⟨k, j, rfl, rfl, h1, h3, h4, h5, h6⟩
    dsimp only at h6
    unfold slicesN11
    have hdl : (h.drop n).length = x.length - n := by rw [List.length_drop, h6]
    refine Tot.ite (fun hlt2 => ?_) fun hge2 => ?_
    ·have hlt2 : j < (h.drop n).length := by simpa using hlt2
     have hj1 : (h.drop n)[j]? = some (h.drop n)[j] := List.getElem?_eq_getElem hlt2
     have hj2 : (h.drop n)[j - 1]? = some (h.drop n)[j - 1] := List.getElem?_eq_getElem (by omega)
     refine Tot.bind (R := fun r : Int × List Int => ∃ k' : Nat, r.1 = (k' : Int) ∧ n ≤ k' ∧ k' ≤ k + 1 ∧ r.2.length = x.length) (Tot.bindeq (idx_some hj1) (Tot.chk (by unfold InI64; dsimp only; omega) (Tot.bindeq (a := (h.drop n)[j - 1]) (by dsimp only; rw [show (j : Int) - 1 = ((j - 1 : Nat) : Int) by omega]; exact idx_some hj2) (Tot.ite (fun _ => ?_) fun _ => ?_)))) ?_
     ·have hk : h[k]? = some h[k] := List.getElem?_eq_getElem (by omega)
      exact Tot.bindeq (idx_some hj1) (Tot.bindeq (idx_some hk) (Tot.chk (by unfold InI64; dsimp only; omega) (Tot.ret ⟨k + 1, rfl, by omega, Nat.le_refl _, by dsimp only; rw [List.length_set]; exact h6⟩)))
     ·exact Tot.ret ⟨k, rfl, h1, by omega, h6⟩
     ·rintro ⟨_, h'⟩ ⟨k', rfl, g1, g2, g3⟩
      exact Tot.chk (by unfold InI64; dsimp only; omega) (Tot.inl ⟨⟨k', j + 1, rfl, rfl, g1, by omega, by omega, by omega, g3⟩, by dsimp only; omega⟩)
    ·have hge2 : ¬ j < (h.drop n).length := by simpa using hge2
     exact Tot.out (Tot.ret ⟨by dsimp only; omega, by dsimp only; omega, h6⟩)
   ·obtain ⟨r1, r2⟩ := r
    obtain ⟨g1, g2, g3⟩ := hr
    dsimp only at g1 g2 g3
    have hll : (r2.take r1.toNat ++ List.replicate (r2.length - r1.toNat) (0 : Int)).length = x.length := by
     rw [List.length_append, List.length_take, List.length_replicate]; omega
    refine Tot.chk ⟨g1, by dsimp only; omega⟩ (Tot.chk ⟨g1, by rw [hll]; dsimp only; omega⟩ (Tot.out (Tot.ret ⟨fun hd => (hnd hd).elim, fun _ => ?_⟩)))
    rw [List.length_take, hll]; omega
  ·unfold slicesN14
   refine Tot.chk (by unfold InI64; omega) (Tot.inl ⟨⟨n + 1, rfl, by omega, hlt, fun m h1 h3 => ?_⟩, by omega⟩)
   by_cases em : m = n
   ·subst em
    rw [e1, e2]; simpa using he
   ·exact hi m h1 (by omega)
 ·have hge : ¬ n < x.length := by simpa using hge
  unfold slicesN13
  obtain rfl : n = x.length := by omega
  exact Tot.out (Tot.ret ⟨fun _ => rfl, fun hn => (hn (adj_nodup hs hi)).elim⟩)
theorem sortI_perm (l : List Int) : (sortI l).Perm l := List.mergeSort_perm _ _
theorem sortIN1 (l : List Int) : (sortI l).Pairwise (· ≤ ·) := by
 have := List.pairwise_mergeSort (le := fun x y : Int => decide (x ≤ y)) (fun a b c h1 h2 => by simp at *; omega) (fun a b => by simp; omega) l
 exact this.imp fun {a b} h => by simpa using h
theorem t_SRight (l : List api_Chain) (hl : l.length ≤ 100000) (hcs : ∀ c, c ∈ l → c.Servers.length ≤ 12) : Tot (scrub_Right l) (Tells (RightL l)) := by
 unfold scrub_Right scrubN23
 refine Tot.each0 (l := l) (fun n => ∀ k c, k < n → l[k]? = some c → RightC c ∧ ∀ m a, k = m + 1 → l[m]? = some a → a.Id < c.Id) (fun n c hlt hc hi => ?_) (fun hi => ?_) (fun k c hk => by omega)
 ·unfold scrubN20
  have hcl := hcs c (List.mem_of_getElem? hc)
  have hsl : (sortI c.Servers).length = c.Servers.length := (sortI_perm _).length_eq
  refine Tot.cond (by simp; omega) (Tot.bindeq (idx_some hc) (Tot.bindeq (a := ()) rfl (Tot.chk (by omega) (Tot.bindeq rfl (Tot.bind (R := Tells (((((c.Id < 0 ∨ 199 < c.Id) ∨ c.Ver < 0) ∨ 1099511627776 < c.Ver) ∨ 5 < c.Servers.length) ∨ ∃ m a, n = m + 1 ∧ l[m]? = some a ∧ c.Id ≤ a.Id)) ?_ fun b hb => ?_)))))
  ·refine Tot.bind (Tot.orI (by simp) fun _ => Tot.dec (by omega)) fun b1 h1 => Tot.bind (Tot.orI h1 fun _ => Tot.dec Iff.rfl) fun b2 h2 => Tot.bind (Tot.orI h2 fun _ => Tot.dec (by omega)) fun b3 h3 => Tot.bind (Tot.orI h3 fun _ => Tot.dec (by omega)) fun b4 h4 => Tot.bind (Tot.orI h4 fun _ => ?_) fun b5 h5 => Tot.ret h5
   refine Tot.bind (R := Tells (∃ m a, n = m + 1 ∧ l[m]? = some a ∧ c.Id ≤ a.Id)) (Tot.ite (fun h => ?_) fun h => ?_) fun b hb => Tot.ret hb
   ·have hn : 0 < n := by simp at h; omega
    obtain ⟨m, rfl⟩ : ∃ m, n = m + 1 := ⟨n - 1, by omega⟩
    have hm : m < l.length := by omega
    refine Tot.chk (by unfold InI64; omega) (Tot.bindeq (a := l[m]) ?_ (Tot.dec ⟨fun h => ⟨m, _, rfl, List.getElem?_eq_getElem hm, h⟩, fun ⟨k, a, hk, ha, h⟩ => ?_⟩))
    ·rw [show ((m + 1 : Nat) : Int) - 1 = (m : Int) by omega, idx_of_nat, List.getElem?_eq_getElem hm]
    ·obtain rfl : k = m := by omega
     rw [List.getElem?_eq_getElem hm] at ha; cases ha; exact h
   ·refine Tot.ret (Tells.no fun ⟨m, a, hn, _⟩ => ?_)
    simp at h; omega
  ·have hmore : ∀ {P : Prop}, (∀ k c', k < n + 1 → l[k]? = some c' → RightC c' ∧ ∀ m a, k = m + 1 → l[m]? = some a → a.Id < c'.Id) ↔ RightC c ∧ (∀ m a, n = m + 1 → l[m]? = some a → a.Id < c.Id) := fun {P} => by
    constructor
    ·intro h; exact h n c (by omega) hc
    ·intro h k c' hk hk'
     rcases Nat.lt_or_ge k n with h1 | h1
     ·exact hi k c' h1 hk'
     ·obtain rfl : k = n := by omega
      rw [hc] at hk'; cases hk'; exact h
   refine Tot.ite (fun h => Tot.out (Tot.ret (Tells.no fun hR => ?_))) fun h => ?_
   ·have h1 := hb.1 h
    obtain ⟨⟨h2, h3, h4, _⟩, h5⟩ := hR n c hc
    rcases h1 with h1 | ⟨m, a, e, ha, h6⟩
    ·omega
    ·have := h5 m a e ha; omega
   ·have hno := fun e => h (hb.2 e)
    have h5 : c.Servers.length ≤ 5 := Nat.le_of_not_lt fun e => hno (.inl (.inr e))
    refine Tot.bind (R := Tells (¬ ((∀ s, s ∈ c.Servers → 0 ≤ s) ∧ c.Servers.Nodup))) ?_ fun b hb => Tot.ite (fun h => Tot.out (Tot.ret (Tells.no fun hR => hb.1 h ⟨(hR n c hc).1.2.2.2.1, (hR n c hc).1.2.2.2.2⟩))) fun h => Tot.chk (by unfold InI64; omega) (Tot.inl ⟨rfl, ?_⟩)
    ·refine Tot.bind (R := Tells (∃ s, s ∈ c.Servers ∧ s < 0)) (Tot.ite (fun h => ?_) fun h => ?_) fun b1 h1 => Tot.bind (R := Tells (¬ ((∀ s, s ∈ c.Servers → 0 ≤ s) ∧ c.Servers.Nodup))) (Tot.ite (fun h => Tot.ret ?_) fun h => ?_) fun b2 h2 => Tot.ret h2
     ·have h : 0 < (sortI c.Servers).length := by simpa using h
      have h0 : (sortI c.Servers)[0]? = some (sortI c.Servers)[0] := List.getElem?_eq_getElem h
      refine Tot.bindeq (idx_some (n := 0) h0) (Tot.dec ⟨fun h => ⟨_, (sortI_perm _).mem_iff.1 (List.getElem_mem (by assumption)), h⟩, fun ⟨s, hs, hs0⟩ => ?_⟩)
      have hs := (sortI_perm _).mem_iff.2 hs
      obtain ⟨i, hi2, rfl⟩ := List.mem_iff_getElem.1 hs
      have := sortIN1 c.Servers
      rw [List.pairwise_iff_getElem] at this
      by_cases e : i = 0
      ·subst e; exact hs0
      ·have := this 0 i h hi2 (by omega); omega
     ·have h : (sortI c.Servers).length = 0 := by simpa using h
      refine Tot.ret (Tells.no fun ⟨s, hs, _⟩ => ?_)
      have hs := (sortI_perm _).mem_iff.2 hs
      rw [List.length_eq_zero_iff.1 h] at hs; cases hs
     ·refine Tells.yes fun hh => ?_
      obtain ⟨s, hs, hs0⟩ := h1.1 h
      have := hh.1 s hs; omega
     ·refine Tot.bind (p_Compact (sortIN1 c.Servers) (by omega)) fun r hr => Tot.dec ?_
      have hnd : (sortI c.Servers).Nodup ↔ c.Servers.Nodup := (sortI_perm _).nodup_iff
      have hpos : ∀ s, s ∈ c.Servers → 0 ≤ s := fun s hs => Int.not_lt.1 fun e => h (h1.2 ⟨s, hs, e⟩)
      constructor
      ·intro hlt ⟨_, hn⟩
       rw [hr.1 (hnd.2 hn)] at hlt; omega
      ·intro hh
       have := hr.2 fun e => hh ⟨hpos, hnd.1 e⟩
       omega
    ·have hy := Classical.byContradiction fun e => h (hb.2 e)
     refine (hmore (P := True)).2 ⟨⟨?_, ?_, h5, hy.1, hy.2⟩, fun m a e ha => ?_⟩
     ·exact ⟨Int.not_lt.1 fun e => hno (.inl (.inl (.inl (.inl (.inl e))))), Int.not_lt.1 fun e => hno (.inl (.inl (.inl (.inl (.inr e)))))⟩
     ·exact ⟨Int.not_lt.1 fun e => hno (.inl (.inl (.inl (.inr e)))), Int.not_lt.1 fun e => hno (.inl (.inl (.inr e)))⟩
     ·exact Int.not_le.1 fun e' => hno (.inr ⟨m, a, e, ha, e'⟩)
 ·unfold scrubN20 scrubN22
  exact Tot.ncond (by simp) (Tot.out (Tot.ret (Tells.yes fun n c hc => hi n c (getR hc).1 hc)))
end Go.Proofs
