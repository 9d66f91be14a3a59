/- Scrubbing, plain: which servers and chains are asked of; a live question. No condition. -/
import Derived.Test.YtcbpphgndncebabGreatXMendWholeP280m
namespace Go.Proofs
set_option linter.all false
open Go Go.Cat
set_option linter.all false
def cmpI (x y : Int) : Int := if x < y then -1 else if x > y then 1 else 0
theorem t_cmpI (x y : Int) : cmp_Compare_int x y = some (cmpI x y) := by
 unfold cmp_Compare_int cmp_isNaN_int cmpI
 simp only [Option.bind_some]
 by_cases h1 : x < y <;> by_cases h2 : x > y <;> simp [h1, h2]
theorem cmpI_lt {x y : Int} : cmpI x y < 0 ↔ x < y := by unfold cmpI; split <;> (try split) <;> omega
theorem plan_cmp : CmpIs scrub_Plan_1 (fun a b => cmpI a.Server b.Server) := by
 refine ⟨fun x y => by unfold scrub_Plan_1; rw [t_cmpI]; rfl, ⟨fun x => ?_, fun x y z h1 h2 => ?_, fun x y z h1 h2 => ?_⟩⟩
 ·simp [cmpI_lt]
 ·simp only [decide_eq_true_eq, cmpI_lt] at *; omega
 ·simp only [decide_eq_false_iff_not, cmpI_lt] at *; omega
instance : CmpOk scrub_Plan_1 := ⟨_, plan_cmp⟩
theorem r_has (l : List Int) (x : Int) (h : l.length ≤ 100000) : ref27_has l x = some (decide (x ∈ l)) := by
 unfold ref27_has ref27_has_L1
 rw [loop_has (l := l) (fun y => y == x)]
 ·refine congrArg some ?_
  rw [Bool.eq_iff_iff, List.any_eq_true]; simp
 ·intro n y hy hn
  unfold ref27_has_B1
  rw [if_pos (by simp; omega), idx_some hy, Option.bind_some]
  by_cases e : (y == x) = true
  ·rw [if_pos e, if_pos e]; rfl
  ·rw [if_neg e, if_neg e, chk_pos (by unfold InI64; omega)]
 ·unfold ref27_has_B1
  rw [if_neg (by simp)]; rfl
def GreatD (D : List api_Disk) : Prop := D.length ≤ 6 ∧ ∀ d, d ∈ D → modest d ∧ uniq d.Synced
theorem GreatD.small {D : List api_Disk} (h : GreatD D) : Small D := ⟨h.1, fun d hd => (h.2 d hd).1.small⟩
theorem t_Great27 (D : List api_Disk) (l : List api_Chain) : Tot (law27_Great D l) (fun b => b = false → GreatD D ∧ l.length ≤ 12 ∧ ∀ c, c ∈ l → c.Servers.length ≤ 12) := by
 unfold law27_Great
 refine Tot.bind (R := Tells (6 < D.length ∨ 12 < l.length)) (Tot.bind (R := Tells (6 < D.length ∨ 12 < l.length)) (Tot.orI (by simp; omega) fun _ => Tot.dec (by omega)) fun b hb => Tot.ret hb) fun b hb => Tot.ite (fun h => Tot.ret fun e => by cases e) fun h => ?_
 have hn : ¬ (6 < D.length ∨ 12 < l.length) := fun e => h (hb.2 e)
 unfold law27_Great_L1
 refine Tot.each0 (l := D) (fun n => ∀ d, d ∈ D.take n → modest d ∧ uniq d.Synced) (fun n d hlt hd hi => ?_) (fun hi => ?_) (fun d hd => by simp at hd)
 ·unfold law27_Great_B1
  refine Tot.cond (by simp; omega) (Tot.bindeq (idx_some hd) (Tot.bind (t_GreatU d) fun b hb => Tot.ite (fun h => Tot.out (Tot.ret fun e => by cases e)) fun h => Tot.chk (by unfold InI64; omega) (Tot.inl ⟨rfl, fun x hx => ?_⟩)))
  rw [take_snoc hd] at hx
  rcases List.mem_append.1 hx with hx | hx
  ·exact hi x hx
  ·rw [List.mem_singleton.1 hx]; exact hb (by simpa using h)
 ·rw [List.take_length] at hi
  unfold law27_Great_B1 law27_Great_J1 law27_Great_L2
  refine Tot.ncond (by simp) (Tot.out ?_)
  refine Tot.each0 (l := l) (fun n => ∀ c, c ∈ l.take n → c.Servers.length ≤ 12) (fun n c hlt hc hj => ?_) (fun hj => ?_) (fun d hd => by simp at hd)
  ·unfold law27_Great_B2
   refine Tot.cond (by simp; omega) (Tot.bindeq (idx_some hc) (Tot.ite (fun h => Tot.out (Tot.ret fun e => by cases e)) fun h => Tot.chk (by unfold InI64; omega) (Tot.inl ⟨rfl, fun x hx => ?_⟩)))
   rw [take_snoc hc] at hx
   rcases List.mem_append.1 hx with hx | hx
   ·exact hj x hx
   ·rw [List.mem_singleton.1 hx]; simp at h; omega
  ·rw [List.take_length] at hj
   unfold law27_Great_B2
   exact Tot.ncond (by simp) (Tot.out (Tot.ret fun _ => ⟨⟨by omega, hi⟩, by omega, hj⟩))
def RightC (c : api_Chain) : Prop := (0 ≤ c.Id ∧ c.Id ≤ 199) ∧ (0 ≤ c.Ver ∧ c.Ver ≤ 1099511627776) ∧ c.Servers.length ≤ 5 ∧ (∀ s, s ∈ c.Servers → 0 ≤ s) ∧ c.Servers.Nodup
theorem RightC.ok {c : api_Chain} (h : RightC c) : ChainOk c := ⟨by have := h.2.2.1; omega, h.2.2.2.1⟩
def RightL (l : List api_Chain) : Prop := ∀ n c, l[n]? = some c → RightC c ∧ ∀ m a, n = m + 1 → l[m]? = some a → a.Id < c.Id
theorem RightL.mem {l : List api_Chain} (h : RightL l) {c : api_Chain} (hc : c ∈ l) : RightC c := by
 obtain ⟨n, hn, rfl⟩ := List.mem_iff_getElem.1 hc
 exact (h n _ (List.getElem?_eq_getElem hn)).1
theorem RightL.lt {l : List api_Chain} (h : RightL l) : ∀ (k n : Nat) (a c : api_Chain), l[n]? = some a → l[n + 1 + k]? = some c → a.Id < c.Id
 | 0, n, a, c, ha, hc => (h (n + 1) c hc).2 n a rfl ha
 | k + 1, n, a, c, ha, hc => by
  have hlt : n + 1 + k < l.length := by have := (List.getElem?_eq_some_iff.1 hc).1; omega
  have h1 := h.lt k n a _ ha (List.getElem?_eq_getElem hlt)
  have h2 := (h (n + 1 + (k + 1)) c hc).2 (n + 1 + k) _ rfl (List.getElem?_eq_getElem hlt)
  omega
theorem RightL.inj {l : List api_Chain} (h : RightL l) {i j : Nat} {a b : api_Chain} (ha : l[i]? = some a) (hb : l[j]? = some b) (e : a.Id = b.Id) : i = j := by
 rcases Nat.lt_trichotomy i j with hlt | rfl | hlt
 ·have := h.lt (j - i - 1) i a b ha (by rw [show i + 1 + (j - i - 1) = j by omega]; exact hb); omega
 ·rfl
 ·have := h.lt (i - j - 1) j b a hb (by rw [show j + 1 + (i - j - 1) = i by omega]; exact ha); omega
theorem RightL.uniqId {l : List api_Chain} (h : RightL l) {a b : api_Chain} (ha : a ∈ l) (hb : b ∈ l) (e : a.Id = b.Id) : a = b := by
 obtain ⟨i, hi⟩ := memR ha
 obtain ⟨j, hj⟩ := memR hb
 have := h.inj hi hj e
 subst this
 rw [hi] at hj; exact Option.some.inj hj
theorem t_RightIn (c : api_Chain) (s1 : Int) (hs : InI64 (s1 + 1)) (hlen : c.Servers.length ≤ 5) : Tot (ref27_Right_L2 c s1 0) (fun y => (((∀ s, s ∈ c.Servers → 0 ≤ s) ∧ c.Servers.Nodup) ∧ y = .inl (s1 + 1)) ∨ (¬ ((∀ s, s ∈ c.Servers → 0 ≤ s) ∧ c.Servers.Nodup) ∧ y = .inr false)) := by
 unfold ref27_Right_L2
 refine Tot.each0 (l := c.Servers) (fun n => (∀ s, s ∈ c.Servers.take n → 0 ≤ s) ∧ (c.Servers.take n).Nodup) (fun n x hlt hx hi => ?_) (fun hi => ?_) ⟨fun s h => by simp at h, by simp⟩
 ·unfold ref27_Right_B2
  refine Tot.cond (by simp; omega) (Tot.bind (R := Tells (x < 0 ∨ x ∈ c.Servers.take n)) (Tot.bindeq (idx_some hx) (Tot.bind (R := Tells (x < 0 ∨ x ∈ c.Servers.take n)) (Tot.orI (by simp) fun _ => Tot.chk (by omega) (Tot.bindeq (idx_some hx) (Tot.bindeq (r_has _ x (by have := List.length_take_le n c.Servers; simp only [Int.toNat_natCast]; omega)) (Tot.ret (by unfold Tells; simp))))) fun b hb => Tot.ret hb)) fun b hb => Tot.ite (fun h => Tot.out ⟨.inr false, rfl, .inr ⟨fun hn => ?_, rfl⟩⟩) fun h => Tot.chk (by unfold InI64; omega) (Tot.inl ⟨rfl, ?_⟩))
  ·rcases hb.1 h with h1 | h1
   ·have := hn.1 x (List.mem_of_getElem? hx); omega
   ·have h2 := hn.2
    rw [← List.take_append_drop n c.Servers, List.nodup_append] at h2
    exact h2.2.2 x h1 x (by
     have : c.Servers.drop n = x :: c.Servers.drop (n + 1) := by
      obtain ⟨h3, rfl⟩ := List.getElem?_eq_some_iff.1 hx
      exact List.drop_eq_getElem_cons h3
     rw [this]; simp) rfl
  ·have hno := fun e => h (hb.2 e)
   rw [take_snoc hx]
   refine ⟨fun s hs => ?_, ?_⟩
   ·rcases List.mem_append.1 hs with hs | hs
    ·exact hi.1 s hs
    ·have h9 : ¬ x < 0 := fun e => hno (.inl e)
     rw [List.mem_singleton.1 hs]; omega
   ·rw [List.nodup_append]
    exact ⟨hi.2, by simp, fun a ha b hb' e => by rw [List.mem_singleton.1 hb'] at e; exact hno (.inr (e ▸ ha))⟩
 ·rw [List.take_length] at hi
  unfold ref27_Right_B2
  refine Tot.ncond (by simp) (Tot.out ?_)
  unfold ref27_Right_J2
  exact Tot.chk hs (Tot.ret (.inl ⟨hi, rfl⟩))
theorem t_RightL (l : List api_Chain) (hl : l.length ≤ 100000) : Tot (ref27_Right l) (Tells (RightL l)) := by
 unfold ref27_Right ref27_Right_L1
 refine Tot.each0 (l := l) (fun n => ∀ k c, k < n → l[k]? = some c → RightC c ∧ ∀ m a, k = m + 1 → l[m]? = some a → a.Id < c.Id) (fun n c hlt hc hi => ?_) (fun hi => ?_) (fun k c hk => by omega)
 ·unfold ref27_Right_B1
  refine Tot.cond (by simp; omega) (Tot.bindeq (idx_some hc) (Tot.bind (R := Tells (((((c.Id < 0 ∨ 199 < c.Id) ∨ c.Ver < 0) ∨ 1099511627776 < c.Ver) ∨ 5 < c.Servers.length) ∨ ∃ m a, n = m + 1 ∧ l[m]? = some a ∧ c.Id ≤ a.Id)) ?_ fun b hb => ?_))
  ·refine Tot.bind (Tot.orI (by simp) fun _ => Tot.dec (by omega)) fun b1 h1 => Tot.bind (Tot.orI h1 fun _ => Tot.dec Iff.rfl) fun b2 h2 => Tot.bind (Tot.orI h2 fun _ => Tot.dec (by omega)) fun b3 h3 => Tot.bind (Tot.orI h3 fun _ => Tot.dec (by omega)) fun b4 h4 => Tot.bind (Tot.orI h4 fun _ => ?_) fun b5 h5 => Tot.ret h5
   refine Tot.bind (R := Tells (∃ m a, n = m + 1 ∧ l[m]? = some a ∧ c.Id ≤ a.Id)) (Tot.ite (fun h => ?_) fun h => ?_) fun b hb => Tot.ret hb
   ·have hn : 0 < n := by simp at h; omega
    obtain ⟨m, rfl⟩ : ∃ m, n = m + 1 := ⟨n - 1, by omega⟩
    have hm : m < l.length := by omega
    refine Tot.chk (by unfold InI64; omega) (Tot.bindeq (a := l[m]) ?_ (Tot.dec ⟨fun h => ⟨m, _, rfl, List.getElem?_eq_getElem hm, h⟩, fun ⟨k, a, hk, ha, h⟩ => ?_⟩))
    ·rw [show ((m + 1 : Nat) : Int) - 1 = (m : Int) by omega, idx_of_nat, List.getElem?_eq_getElem hm]
    ·obtain rfl : k = m := by omega
     rw [List.getElem?_eq_getElem hm] at ha; cases ha; exact h
   ·refine Tot.ret (Tells.no fun ⟨m, a, hn, _⟩ => ?_)
    simp at h; omega
  ·have hmore : ∀ {P : Prop}, (∀ k c', k < n + 1 → l[k]? = some c' → RightC c' ∧ ∀ m a, k = m + 1 → l[m]? = some a → a.Id < c'.Id) ↔ RightC c ∧ (∀ m a, n = m + 1 → l[m]? = some a → a.Id < c.Id) := fun {P} => by
    constructor
    ·intro h; exact h n c (by omega) hc
    ·intro h k c' hk hk'
     rcases Nat.lt_or_ge k n with h1 | h1
     ·exact hi k c' h1 hk'
     ·obtain rfl : k = n := by omega
      rw [hc] at hk'; cases hk'; exact h
   refine Tot.ite (fun h => Tot.out (Tot.ret (Tells.no fun hR => ?_))) fun h => ?_
   ·have h1 := hb.1 h
    obtain ⟨⟨h2, h3, h4, _⟩, h5⟩ := hR n c hc
    rcases h1 with h1 | ⟨m, a, e, ha, h6⟩
    ·omega
    ·have := h5 m a e ha; omega
   ·have hno := fun e => h (hb.2 e)
    have h5 : c.Servers.length ≤ 5 := Nat.le_of_not_lt fun e => hno (.inl (.inr e))
    refine (t_RightIn c n (by unfold InI64; omega) h5).mono fun y hy => ?_
    rcases hy with ⟨hy, rfl⟩ | ⟨hy, rfl⟩
    ·refine ⟨rfl, (hmore (P := True)).2 ⟨⟨?_, ?_, h5, hy.1, hy.2⟩, fun m a e ha => ?_⟩⟩
     ·exact ⟨Int.not_lt.1 fun e => hno (.inl (.inl (.inl (.inl (.inl e))))), Int.not_lt.1 fun e => hno (.inl (.inl (.inl (.inl (.inr e)))))⟩
     ·exact ⟨Int.not_lt.1 fun e => hno (.inl (.inl (.inl (.inr e)))), Int.not_lt.1 fun e => hno (.inl (.inl (.inr e)))⟩
     ·exact Int.not_le.1 fun e' => hno (.inr ⟨m, a, e, ha, e'⟩)
    ·exact Tells.no fun hR => hy ⟨(hR n c hc).1.2.2.2.1, (hR n c hc).1.2.2.2.2⟩
 ·unfold ref27_Right_B1
  exact Tot.ncond (by simp) (Tot.out (Tot.ret (Tells.yes fun n c hc => hi n c (getR hc).1 hc)))
end Go.Proofs
