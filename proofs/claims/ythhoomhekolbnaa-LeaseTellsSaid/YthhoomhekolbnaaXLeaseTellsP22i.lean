/- Leases, plain: the document's answer. No condition. -/
import Derived.Test.YthhoomhekolbnaaXLeaseTellsP22h
namespace Go.Proofs
set_option linter.all false
open Go Go.Cat
set_option linter.all false

theorem p_rOver (l : List api_Lease) (now : Int) (hl : l.length ≤ 100000) : ref22_Over l now = some (l.filter (fun x : api_Lease => decide (x.Until > now))) := by
  unfold ref22_Over ref22_Over_L1
  have h := loop_eachN (b := l) (B := ref22_Over_B1 l now) (fun w x => if (fun x : api_Lease => decide (x.Until > now)) x = true then w ++ [x] else w) (fun n w => w.length ≤ n) id (fun w n x hw hx hlt => ⟨by
    refine Tot.eq ?_
    unfold ref22_Over_B1
    refine Tot.cond (by simp; omega) (Tot.bind (R := (· = if (fun x : api_Lease => decide (x.Until > now)) x = true then w ++ [x] else w)) (Tot.bindeq (idx_some hx) (Tot.ite (fun h => ?_) fun h => ?_)) fun v hv => Tot.chk (by unfold InI64; dsimp only; omega) (Tot.ret (by rw [hv])))
    · rw [if_pos h]; exact Tot.bindeq (idx_some hx) (Tot.chk (by simp; omega) (Tot.ret rfl))
    · rw [if_neg h]; exact Tot.ret rfl, by
    have : (w ++ [x]).length = w.length + 1 := by simp
    split <;> omega⟩) (fun m hm => by
    unfold ref22_Over_B1
    rw [if_neg (by simp)]; rfl) [] (Nat.le_refl _)
  have e : loop (ref22_Over_B1 l now) (0, []) = some (l.filter (fun x : api_Lease => decide (x.Until > now))) := h.1.trans (congrArg some ((fold_keep _ l []).trans (List.nil_append _)))
  rw [e]; rfl

theorem p_rBack (l : List api_Lease) (c i : Int) (hl : l.length ≤ 100000) : ref22_Back l c i = some (l.filter (fun x : api_Lease => x.Client != c || x.Ino != i)) := by
  unfold ref22_Back ref22_Back_L1
  have h := loop_eachN (b := l) (B := ref22_Back_B1 l c i) (fun w x => if (fun x : api_Lease => x.Client != c || x.Ino != i) x = true then w ++ [x] else w) (fun n w => w.length ≤ n) id (fun w n x hw hx hlt => ⟨by
    have hb : (((idx l (n : Int)).bind fun x1 => (if (x1.Client != c) then some true else (idx l (n : Int)).bind fun x2 => some ((x2.Ino != i))).bind fun c1 => some c1) : Option Bool) = some (x.Client != c || x.Ino != i) := by
      rw [idx_some hx, Option.bind_some, Option.bind_some]
      cases (x.Client != c) <;> rfl
    refine Tot.eq ?_
    unfold ref22_Back_B1
    refine Tot.cond (by simp; omega) (Tot.bind (R := (· = if (fun x : api_Lease => x.Client != c || x.Ino != i) x = true then w ++ [x] else w)) (Tot.bindeq hb (Tot.ite (fun h => ?_) fun h => ?_)) fun v hv => Tot.chk (by unfold InI64; dsimp only; omega) (Tot.ret (by rw [hv])))
    · rw [if_pos h]; exact Tot.bindeq (idx_some hx) (Tot.chk (by simp; omega) (Tot.ret rfl))
    · rw [if_neg h]; exact Tot.ret rfl, by
    have : (w ++ [x]).length = w.length + 1 := by simp
    split <;> omega⟩) (fun m hm => by
    unfold ref22_Back_B1
    rw [if_neg (by simp)]; rfl) [] (Nat.le_refl _)
  have e : loop (ref22_Back_B1 l c i) (0, []) = some (l.filter (fun x : api_Lease => x.Client != c || x.Ino != i)) := h.1.trans (congrArg some ((fold_keep _ l []).trans (List.nil_append _)))
  rw [e]; rfl

theorem p_rAsk2 (l : List api_Lease) (q : api_Lease) (hl : l.length ≤ 100000) : ref22_Ask_L1 l q (0, []) = some (l.filter fun x => !sameB x (q0 q)) := by
  unfold ref22_Ask_L1
  have h := loop_eachN (b := l) (B := ref22_Ask_B1 l q) (fun w x => if (!sameB x (q0 q)) = true then w ++ [x] else w) (fun n w => w.length ≤ n) id (fun w n x hw hx hlt => ⟨by
    have hb : (((if (x.Client != q.Client) then some true else some ((x.Ino != q.Ino))).bind fun c3 => (if c3 then some true else some ((x.Kind != q.Kind))).bind fun c4 => (if c4 then some true else some ((!(x.Span.From == q.Span.From && (x.Span.To == q.Span.To && true))))).bind fun c5 => some c5) : Option Bool) = some (!sameB x (q0 q)) := by
      unfold sameB q0 bne
      dsimp only
      cases (x.Client == q.Client) <;> cases (x.Ino == q.Ino) <;> cases (x.Kind == q.Kind) <;> cases (x.Span.From == q.Span.From) <;> cases (x.Span.To == q.Span.To) <;> rfl
    refine Tot.eq ?_
    unfold ref22_Ask_B1
    refine Tot.cond (by simp; omega) (Tot.bind (R := (· = if (!sameB x (q0 q)) = true then w ++ [x] else w)) (Tot.bindeq (idx_some hx) (Tot.bindeq hb (Tot.ite (fun h => ?_) fun h => ?_))) fun v hv => Tot.chk (by unfold InI64; dsimp only; omega) (Tot.ret (by rw [hv])))
    · rw [if_pos h]; exact Tot.chk (by simp; omega) (Tot.ret rfl)
    · rw [if_neg h]; exact Tot.ret rfl, by
    have : (w ++ [x]).length = w.length + 1 := by simp
    split <;> omega⟩) (fun m hm => by
    unfold ref22_Ask_B1
    rw [if_neg (by simp)]; rfl) [] (Nat.le_refl _)
  exact h.1.trans (congrArg some ((fold_keep _ l []).trans (List.nil_append _)))
theorem rwait_all : ∀ k : Nat, k < 64 → ref03_Wait' 60 ((k : Int) + 1) = some ((k : Int) + 3) := by decide +kernel
theorem p_rWait {n : Int} (h : 1 ≤ n ∧ n ≤ 64) : ref03_Wait n = some (n + 2) := by
  have := le_ref03_Wait 60 _ _ (rwait_all (n - 1).toNat (by omega))
  rw [show (((n - 1).toNat : Nat) : Int) + 1 = n by omega, show (((n - 1).toNat : Nat) : Int) + 3 = n + 2 by omega] at this
  exact this
theorem rise_len : ∀ (n : Nat) (l : List Int), l.Pairwise (· < ·) → (∀ c, c ∈ l → (16 - (n : Int)) ≤ c ∧ c < 16) → l.length ≤ n := by
  intro n
  induction n with
  | zero =>
    intro l _ h
    cases l with
    | nil => exact Nat.le_refl _
    | cons y l => have := h y (List.mem_cons_self ..); omega
  | succ n ih =>
    intro l hp h
    cases l with
    | nil => exact Nat.zero_le _
    | cons y l =>
      rw [List.pairwise_cons] at hp
      have hy := h y (List.mem_cons_self ..)
      have := ih l hp.2 fun c hc => by
        have h1 := hp.1 c hc
        have h2 := h c (List.mem_cons_of_mem _ hc)
        omega
      simp only [List.length_cons]; omega
/-- Both ask alike, where clients are few. -/
theorem both_Ask (l : List api_Lease) (now : Int) (q : api_Lease) (many : Int) (hl : l.length ≤ 10000) (hn : -4611686018427387904 ≤ now ∧ now ≤ 4611686018427387904) (hc : ∀ x, x ∈ l → 0 ≤ x.Client ∧ x.Client < 16) :
    ∃ r, lease_Ask l now q many = some r ∧ ref22_Ask l now q many = some r ∧ r.1.length ≤ l.length + 1 ∧ r.2.2.length ≤ 100000 := by
  obtain ⟨r, hr, hp⟩ := t_Ask l now q many hl hn
  have hov : (overN l now).length ≤ l.length := List.length_filter_le _ _
  have hkl : (keptN l now q).length ≤ l.length := (kept_sub l now q).length_le
  have main : Tot (ref22_Ask l now q many) (fun s => s = r ∧ r.1.length ≤ l.length + 1 ∧ r.2.2.length ≤ 100000) := by
    unfold ref22_Ask
    refine Tot.bind (R := Tells ((¬ oneP (q0 q) ∨ many < 1) ∨ 64 < many)) (Tot.bind (t_rOne (q0 q)) fun x1 h1 => Tot.bind (R := Tells (¬ oneP (q0 q) ∨ many < 1)) (Tot.orI h1.not fun _ => Tot.dec (by omega)) fun c1 g1 => Tot.bind (Tot.orI g1 fun _ => Tot.dec (by omega)) fun _ h => Tot.ret h) fun v hv => Tot.ite (fun ht => Tot.ret ?_) fun hf => ?_
    · have hb := hv.1 ht
      have e := hp.bad (by
        rintro ⟨a, b, c⟩
        rcases hb with (h | h) | h
        · exact h a
        · omega
        · omega)
      rw [e]
      exact ⟨rfl, by dsimp only; omega, by simp⟩
    have hno : ¬ ((¬ oneP (q0 q) ∨ many < 1) ∨ 64 < many) := fun h => hf (hv.2 h)
    have hg : oneP (q0 q) ∧ 1 ≤ many ∧ many ≤ 64 := by
      refine ⟨Classical.byContradiction fun h => hno (.inl (.inl h)), ?_, ?_⟩
      · have : ¬ many < 1 := fun h => hno (.inl (.inr h))
        omega
      · have : ¬ 64 < many := fun h => hno (.inr h)
        omega
    refine Tot.bindeq (a := overN l now) (p_rOver l now (by omega)) ?_
    show Tot ((ref22_Whose (overN l now) (q0 q)).bind _) _
    refine Tot.bind (t_Whose (overN l now) (q0 q) (by omega)) fun w ⟨hw1, hw2⟩ => ?_
    have hmem : ∀ c, c ∈ w ↔ c ∈ whoN l now q := fun c => by
      rw [hw2]
      unfold whoN
      rw [List.mem_map]
      constructor
      · rintro ⟨-, x, h1, h2, h3⟩
        exact ⟨x, List.mem_filter.2 ⟨h1, h3⟩, h2⟩
      · rintro ⟨x, h1, h2⟩
        obtain ⟨h3, h4⟩ := List.mem_filter.1 h1
        have := hc x (List.mem_filter.1 h3).1
        exact ⟨by omega, x, h3, h2, h4⟩
    have hwl : w.length ≤ 100000 := by
      have := rise_len 16 w hw1 fun c hc => by have := ((hw2 c).1 hc).1; omega
      omega
    refine Tot.ite (fun hpos => Tot.ret ?_) fun hz => ?_
    · have hw : whoN l now q ≠ [] := fun e => by
        have : w = [] := List.eq_nil_iff_forall_not_mem.2 fun c hc => by rw [hmem, e] at hc; cases hc
        rw [this] at hpos; simp at hpos
      obtain ⟨a1, a2, a3⟩ := hp.no hg hw
      have e : r.2.2 = w := sorted_ext a3.1 hw1 fun c => (a3.2 c).trans (hmem c).symm
      obtain ⟨r1, r2, r3⟩ := r
      dsimp only at a1 a2 e
      subst a1 a2 e
      exact ⟨rfl, by dsimp only; omega, hwl⟩
    have hw0 : w = [] := List.length_eq_zero_iff.1 (by have : ¬ (w.length : Int) > 0 := by simpa using hz
                                                       omega)
    have hw : whoN l now q = [] := List.eq_nil_iff_forall_not_mem.2 fun c hc => by rw [← hmem, hw0] at hc; cases hc
    refine Tot.bindeq (a := keptN l now q) (p_rAsk2 _ q (by omega)) (Tot.ite (fun h64 => Tot.ret ?_) fun h64 => ?_)
    · have h64 : 64 ≤ (keptN l now q).length := by have : ((keptN l now q).length : Int) ≥ 64 := by simpa using h64
                                                   omega
      rw [hp.full hg hw h64]
      exact ⟨rfl, by dsimp only; omega, by simp⟩
    have h64 : (keptN l now q).length < 64 := by have : ¬ ((keptN l now q).length : Int) ≥ 64 := by simpa using h64
                                                 omega
    refine Tot.bindeq (p_rWait hg.2) (Tot.chk (by unfold InI64; omega) (Tot.chk (by simp; omega) (Tot.ret ?_)))
    rw [hp.yes hg hw h64]
    exact ⟨rfl, by simp; omega, by simp⟩
  obtain ⟨s, hs, rfl, h1, h2⟩ := main
  exact ⟨s, hr, hs, h1, h2⟩

/-! What is had. -/
theorem t_rHas22 (l : List api_Lease) (c i k : Int) (s : api_Span) (hl : l.length ≤ 1000) (ok : ∀ x, x ∈ l → spanP x.Span) : Tot (ref22_Has l c i k s) (Tells (spanP s ∧ kindP k ∧ ∀ p, InS s p → In (hadN l c i k) p)) := by
  unfold ref22_Has
  refine Tot.bind (R := Tells (¬ (spanP s ∧ kindP k))) ?_ fun v hv => Tot.ite (fun ht => Tot.ret ⟨fun h => (by cases h), fun h => absurd ⟨h.1, h.2.1⟩ (hv.1 ht)⟩) fun hf => ?_
  · refine Tot.bind (t_rSpanned s) fun x1 h1 => Tot.bind (R := Tells (¬ spanP s ∨ ¬ kindP k)) (Tot.orI h1.not fun _ => Tot.bind (R := Tells (¬ kindP k)) ((Tot.andI (P := k ≠ 1) (Q := k ≠ 2) (by simp) fun _ => Tot.is (by simp)).mono fun b hb => hb.iff (by unfold kindP; omega)) fun _ h => Tot.ret h) fun c1 hc => Tot.ret (hc.iff ?_)
    constructor
    · rintro (h | h) ⟨a, b⟩
      · exact h a
      · exact h b
    · intro h
      by_cases a : spanP s
      · exact .inr fun b => h ⟨a, b⟩
      · exact .inl a
  have hg : spanP s ∧ kindP k := Classical.byContradiction fun h => hf (hv.2 h)
  have hsp := hg.1
  unfold spanP at hsp
  refine Tot.bind (R := fun v : Int => (v ≥ s.To ↔ ∀ p, InS s p → In (hadN l c i k) p)) ?_ fun v hv => Tot.dec (hv.trans ⟨fun h => ⟨hg.1, hg.2, h⟩, fun h => h.2.2⟩)
  unfold ref22_Has_L1
  refine Tot.loop (fun q : Int × Int => ∃ n : Nat, q.2 = n ∧ n ≤ l.length ∧ s.From ≤ q.1 ∧ q.1 ≤ 1099511627776 ∧ (∀ p, s.From ≤ p → p < q.1 → In (hadN l c i k) p) ∧ ∀ x, x ∈ l.take n → hadB c i k x = true → ¬ (x.Span.From ≤ q.1 ∧ q.1 < x.Span.To)) (fun q => (1099511627776 - q.1).toNat * (l.length + 1) + ((l.length : Int) - q.2).toNat) ?_ _ ⟨0, rfl, Nat.zero_le _, Int.le_refl _, by dsimp only; omega, fun p h1 h2 => by dsimp only at h2; omega, fun x h => by cases h⟩
  rintro ⟨at_, q⟩ ⟨n, e, g1, g2, g3, g4, g5⟩
  dsimp only at e g2 g3 g4 g5
  subst e
  unfold ref22_Has_B1
  refine Tot.ite (fun hlt => ?_) fun hge => Tot.out (Tot.ret ?_)
  · have hlt : n < l.length := by simpa using hlt
    have hx := getLt hlt
    generalize l[n] = x at hx
    have hb : (((if (x.Client == c) then some ((x.Ino == i)) else some false).bind fun c3 => (if c3 then (if (x.Kind == k) then some true else some ((x.Kind == 2))).bind fun c4 => some c4 else some false).bind fun c5 => (if c5 then some ((decide (x.Span.From ≤ at_))) else some false).bind fun c6 => (if c6 then some ((decide (x.Span.To > at_))) else some false).bind fun c7 => some c7) : Option Bool) = some (hadB c i k x && (decide (x.Span.From ≤ at_) && decide (x.Span.To > at_))) := by
      unfold hadB
      cases (x.Client == c) <;> cases (x.Ino == i) <;> cases (x.Kind == k) <;> cases (x.Kind == 2) <;> cases decide (x.Span.From ≤ at_) <;> rfl
    have okx := ok x (List.mem_of_getElem? hx)
    unfold spanP at okx
    refine Tot.bind (R := fun v : Int × Int => (v = (x.Span.To, -1) ∧ hadB c i k x = true ∧ x.Span.From ≤ at_ ∧ at_ < x.Span.To) ∨ (v = (at_, (n : Int)) ∧ ¬ (hadB c i k x = true ∧ x.Span.From ≤ at_ ∧ at_ < x.Span.To))) (Tot.bindeq (idx_some hx) (Tot.bindeq hb (Tot.ite (fun ht => Tot.ret (.inl ?_)) fun hf => Tot.ret (.inr ⟨rfl, ?_⟩)))) fun v hv => ?_
    · simp only [Bool.and_eq_true, decide_eq_true_eq] at ht
      exact ⟨rfl, ht.1, ht.2.1, by omega⟩
    · simp only [Bool.and_eq_true, decide_eq_true_eq] at hf
      exact fun h => hf ⟨h.1, h.2.1, by omega⟩
    rcases hv with ⟨rfl, h1, h2, h3⟩ | ⟨rfl, hn⟩
    · refine Tot.chk (by unfold InI64; dsimp only; omega) (Tot.inl ⟨⟨0, rfl, Nat.zero_le _, by dsimp only; omega, by dsimp only; omega, fun p p1 p2 => ?_, fun y h => by cases h⟩, ?_⟩)
      · dsimp only at p2
        by_cases h : p < at_
        · exact g4 p p1 h
        · exact In_had.2 ⟨x, List.mem_of_getElem? hx, h1, by unfold InS; omega⟩
      · dsimp only
        have a1 : (1099511627776 - x.Span.To).toNat + 1 ≤ (1099511627776 - at_).toNat := by omega
        have a2 := Nat.mul_le_mul_right (l.length + 1) a1
        rw [Nat.add_mul] at a2
        omega
    · refine Tot.chk (by unfold InI64; dsimp only; omega) (Tot.inl ⟨⟨n + 1, rfl, hlt, g2, g3, g4, fun y hy hyb => ?_⟩, by dsimp only; omega⟩)
      rw [take_next hx, List.mem_append, List.mem_singleton] at hy
      rcases hy with h | h
      · exact g5 y h hyb
      · subst h
        exact fun hh => hn ⟨hyb, hh⟩
  · have : n = l.length := by have : ¬ n < l.length := by simpa using hge
                              omega
    subst this
    rw [List.take_length] at g5
    dsimp only
    constructor
    · intro h p hp
      unfold InS at hp
      exact g4 p hp.1 (by omega)
    · intro h
      refine Classical.byContradiction fun hlt => ?_
      obtain ⟨x, h1, h2, h3⟩ := In_had.1 (h at_ (by unfold InS; omega))
      unfold InS at h3
      exact g5 x h1 h2 ⟨h3.1, h3.2.1⟩

/-! What is right, told. -/
theorem right_iff {l : List api_Lease} : RightL l ↔ ∀ (n : Nat) x, l[n]? = some x → oneP x ∧ ∀ (k : Nat) y, k < n → l[k]? = some y → clashB x y = false := by
  unfold RightL
  constructor
  · rintro ⟨h1, h2⟩ n x hx
    refine ⟨h1 x (List.mem_of_getElem? hx), fun k y hk hy => ?_⟩
    obtain ⟨a1, e1⟩ := List.getElem?_eq_some_iff.1 hx
    obtain ⟨a2, e2⟩ := List.getElem?_eq_some_iff.1 hy
    have := List.pairwise_iff_getElem.1 h2 k n a2 a1 hk
    rw [e1, e2] at this; exact this
  · intro h
    refine ⟨fun x hx => ?_, List.pairwise_iff_getElem.2 fun i j hi hj hij => (h j _ (getLt hj)).2 i _ hij (getLt hi)⟩
    obtain ⟨n, hn⟩ := memR hx
    exact (h n x hn).1
theorem t_rRight22 (l : List api_Lease) (hl : l.length ≤ 1000) : Tot (ref22_Right l) (Tells (RightL l ∧ l.length ≤ 64)) := by
  unfold ref22_Right ref22_Right_L1
  refine Tot.loop (fun s : Int => ∃ n : Nat, s = n ∧ n ≤ l.length ∧ ∀ (m : Nat) x, m < n → l[m]? = some x → oneP x ∧ ∀ (k : Nat) y, k < m → l[k]? = some y → clashB x y = false) (fun s => ((l.length : Int) - s).toNat) ?_ 0 ⟨0, rfl, Nat.zero_le _, fun m x h => by omega⟩
  rintro s ⟨n, rfl, g1, g2⟩
  unfold ref22_Right_B1 ref22_Right_J1
  refine Tot.ite (fun hlt => ?_) fun hge => Tot.out (Tot.dec ?_)
  · have hlt : n < l.length := by simpa using hlt
    have hx := getLt hlt
    generalize l[n] = x at hx
    refine Tot.bindeq (idx_some hx) (Tot.bind (t_rOne x) fun b hb => Tot.ite (fun hn => Tot.out (Tot.ret ⟨fun h => (by cases h), fun h => ?_⟩)) fun hn => ?_)
    · have := hb.2 ((right_iff.1 h.1) n x hx).1
      rw [this] at hn; cases hn
    have hone : oneP x := hb.1 (by simpa using hn)
    unfold ref22_Right_L2
    refine Tot.loop (fun q : Int => ∃ k : Nat, q = k ∧ k ≤ n ∧ ∀ (j : Nat) y, j < k → l[j]? = some y → clashB x y = false) (fun q => ((n : Int) - q).toNat) ?_ 0 ⟨0, rfl, Nat.zero_le _, fun j y h => by omega⟩
    rintro q ⟨k, rfl, k1, k2⟩
    unfold ref22_Right_B2 ref22_Right_J2
    refine Tot.ite (fun hkl => ?_) fun hkg => Tot.out (Tot.chk (by unfold InI64; omega) (Tot.inl ⟨⟨n + 1, rfl, hlt, fun m y hm hy => ?_⟩, by omega⟩))
    · have hkl : k < n := by simpa using hkl
      have hy := getLt (l := l) (n := k) (by omega)
      generalize l[k] = y at hy
      refine Tot.bindeq (idx_some hx) (Tot.bindeq (idx_some hy) (Tot.bindeq (p_rClash x y) (Tot.ite (fun ht => Tot.out (Tot.out (Tot.ret ⟨fun h => (by cases h), fun h => ?_⟩))) fun hf => Tot.chk (by unfold InI64; omega) (Tot.inl ⟨⟨k + 1, rfl, hkl, fun j z hj hz => ?_⟩, by omega⟩))))
      · have := ((right_iff.1 h.1) n x hx).2 k y hkl hy
        rw [this] at ht; cases ht
      · rcases Nat.lt_or_ge j k with h | h
        · exact k2 j z h hz
        · have : j = k := by omega
          subst this
          rw [hy] at hz; cases hz
          simpa using hf
    · have hkg : k = n := by have : ¬ k < n := by simpa using hkg
                             omega
      rcases Nat.lt_or_ge m n with h | h
      · exact g2 m y h hy
      · have : m = n := by omega
        subst this
        rw [hx] at hy; cases hy
        exact ⟨hone, fun j z hj hz => k2 j z (by omega) hz⟩
  · have hge : ¬ n < l.length := by simpa using hge
    constructor
    · intro h
      exact ⟨right_iff.2 fun m x hx => g2 m x (by have := (getR hx).1; omega) hx, by omega⟩
    · intro h; have := h.2; omega
theorem t_lRight22 (l : List api_Lease) (hl : l.length ≤ 1000) : Tot (lease_Right l) (Tells (RightL l ∧ l.length ≤ 64)) := by
  by_cases h64 : l.length ≤ 64
  · unfold lease_Right lease_Right_L1
    refine Tot.ncond (by simp; omega) (Tot.loop (fun s : Int => ∃ n : Nat, s = n ∧ n ≤ l.length ∧ ∀ (m : Nat) x, m < n → l[m]? = some x → oneP x ∧ ∀ (k : Nat) y, k < m → l[k]? = some y → clashB x y = false) (fun s => ((l.length : Int) - s).toNat) ?_ 0 ⟨0, rfl, Nat.zero_le _, fun m x h => by omega⟩)
    rintro s ⟨n, rfl, g1, g2⟩
    unfold lease_Right_B1 lease_Right_J1
    refine Tot.ite (fun hlt => ?_) fun hge => Tot.out (Tot.ret ?_)
    · have hlt : n < l.length := by simpa using hlt
      have hx := getLt hlt
      generalize l[n] = x at hx
      refine Tot.bindeq (idx_some hx) (Tot.bind (R := Tells (¬ oneP x ∨ ∃ y, y ∈ l.take n ∧ clashB x y = true)) ?_ fun v hv => Tot.ite (fun ht => Tot.out (Tot.ret ⟨fun h => (by cases h), fun h => ?_⟩)) fun hf => Tot.chk (by unfold InI64; omega) (Tot.inl ⟨⟨n + 1, rfl, hlt, fun m y hm hy => ?_⟩, by omega⟩))
      · refine Tot.bind (t_one x) fun c hc => Tot.bind (Tot.orI hc.not fun _ => Tot.chk (by omega) ?_) fun _ h => Tot.ret h
        show Tot ((slices_ContainsFunc_api_Lease_api_Lease__lease_Right_1 (l.take n) x).bind _) _
        refine Tot.bindeq (a := (l.take n).any fun y => clashB x y) ?_ (Tot.is (by rw [List.any_eq_true]))
        unfold slices_ContainsFunc_api_Lease_api_Lease__lease_Right_1 slices_IndexFunc_api_Lease_api_Lease__lease_Right_1 slices_IndexFunc_api_Lease_api_Lease__lease_Right_1_L1
        generalize hT : l.take n = T
        have hTl : T.length ≤ 1000 := by rw [← hT]; simp; omega
        have hf := loop_find (b := T) (B := slices_IndexFunc_api_Lease_api_Lease__lease_Right_1_B1 T x.Client x.Ino x.Kind x.Span.From x.Span.To x.Until x.Epoch) (fun y => clashB x y) (fun n _ => (n : Int)) (-1) (fun n y hy hn => ?_) ?_
        · rw [hf, Option.bind_some]
          refine congrArg some ?_
          rw [← List.findIdx?_isSome]
          cases hfi : T.findIdx? (fun y => clashB x y) with
          | none => rfl
          | some j =>
            obtain ⟨hj, -⟩ := List.findIdx?_eq_some_iff_getElem.1 hfi
            simp [List.getElem?_eq_getElem hj]
        · split
          · rename_i hp
            refine Tot.eq ?_
            unfold slices_IndexFunc_api_Lease_api_Lease__lease_Right_1_B1
            exact Tot.cond (by simp; omega) (Tot.bindeq (idx_some hy) (Tot.bindeq (p_right1 y x) (Tot.cond hp ⟨_, rfl, rfl⟩)))
          · rename_i hp
            refine Tot.eq ?_
            unfold slices_IndexFunc_api_Lease_api_Lease__lease_Right_1_B1
            exact Tot.cond (by simp; omega) (Tot.bindeq (idx_some hy) (Tot.bindeq (p_right1 y x) (Tot.ncond hp (Tot.chk (by unfold InI64; omega) (Tot.ret rfl)))))
        · unfold slices_IndexFunc_api_Lease_api_Lease__lease_Right_1_B1 slices_IndexFunc_api_Lease_api_Lease__lease_Right_1_J1
          rw [if_neg (by simp)]; rfl
      · have hr := (right_iff.1 h.1) n x hx
        rcases hv.1 ht with h | ⟨y, hy, hc⟩
        · exact absurd hr.1 h
        · obtain ⟨k, hk⟩ := memR hy
          have hkl := (getR hk).1
          have hkn : k < n := by simp at hkl; omega
          rw [List.getElem?_take_of_lt hkn] at hk
          rw [hr.2 k y hkn hk] at hc; cases hc
      · have hno : ¬ (¬ oneP x ∨ ∃ y, y ∈ l.take n ∧ clashB x y = true) := fun h => hf (hv.2 h)
        rcases Nat.lt_or_ge m n with h | h
        · exact g2 m y h hy
        · have : m = n := by omega
          subst this
          rw [hx] at hy; cases hy
          refine ⟨Classical.byContradiction fun h => hno (.inl h), fun k z hk hz => ?_⟩
          cases hc : clashB x z with
          | false => rfl
          | true => exact absurd (.inr ⟨z, (getR (show (l.take m)[k]? = some z by rw [List.getElem?_take_of_lt hk]; exact hz)).2, hc⟩) hno
    · have hge : ¬ n < l.length := by simpa using hge
      exact ⟨fun _ => ⟨right_iff.2 fun m x hx => g2 m x (by have := (getR hx).1; omega) hx, h64⟩, fun _ => rfl⟩
  · unfold lease_Right
    exact Tot.cond (by simp; omega) (Tot.ret ⟨fun h => (by cases h), fun h => absurd h.2 h64⟩)

theorem l_LeaseTells (l : List api_Lease) (now : Int) (q : api_Lease) (long : Int) (s : api_Span) : law22_LeaseTells l now q long s = some true := by
  refine Tot.eq ?_
  unfold law22_LeaseTells
  refine Tot.bindeq p_head22 (Tot.ite (fun _ => Tot.ret rfl) fun hn => ?_)
  have hl : l.length ≤ 80 := by have : ¬ (l.length : Int) > 80 := by simpa using hn
                                omega
  obtain ⟨b2, e2, h2⟩ := t_lRight22 l (by omega)
  obtain ⟨b3, e3, h3⟩ := t_rRight22 l (by omega)
  have heq : b2 = b3 := by
    cases b2 <;> cases b3 <;> first | rfl | skip
    · exact (h2.2 (h3.1 rfl)).symm ▸ rfl
    · exact (h3.2 (h2.1 rfl)) ▸ rfl
  subst heq
  refine Tot.bindeq e2 (Tot.bindeq e3 (Tot.ncond (by simp) (Tot.bindeq e3 (Tot.ite (fun _ => Tot.ret rfl) fun hr => ?_))))
  obtain ⟨hR, h64⟩ := h3.1 (by simpa using hr)
  obtain ⟨t, ht, t1, t2⟩ := time_ok now
  have hone : ∀ x, x ∈ l → oneP x := hR.1
  obtain ⟨r, ra, rb, rl, rw'⟩ := both_Ask l t q long (by omega) (by omega) fun x hx => (hone x hx).1.1.1.1.1.1
  refine Tot.bindeq ht (Tot.bindeq ra (Tot.bindeq rb ?_))
  have hint : ref14_Ints r.2.2 r.2.2 = some true := by
    refine Tot.eq ?_
    generalize r.2.2 = a at rw'
    unfold ref14_Ints ref14_Ints_L1
    refine Tot.ncond (by simp) (Tot.loop (fun s : Int => 0 ≤ s ∧ s ≤ (a.length : Int)) (fun s => ((a.length : Int) - s).toNat) ?_ 0 ⟨by simp, by simp⟩)
    rintro s ⟨g0, g1⟩
    unfold ref14_Ints_B1 ref14_Ints_J1
    refine Tot.ite (fun hlt => ?_) fun _ => Tot.out (Tot.ret rfl)
    have hlt : s < a.length := by simpa using hlt
    obtain ⟨x, hx⟩ : ∃ x, a[s.toNat]? = some x := ⟨_, getLt (by omega)⟩
    have hi : idx a s = some x := by unfold idx; rw [if_pos g0]; exact hx
    exact Tot.bindeq hi (Tot.bindeq hi (Tot.ncond (by simp) (Tot.chk (by unfold InI64; omega) (Tot.inl ⟨⟨by omega, by omega⟩, by omega⟩))))
  obtain ⟨b16, e16, h16⟩ := t_Has22 l q.Client q.Ino q.Kind s (by omega)
  obtain ⟨b17, e17, h17⟩ := t_rHas22 l q.Client q.Ino q.Kind s (by omega) fun x hx => (hone x hx).1.1.1.2
  have hbb : b16 = b17 := by
    cases b16 <;> cases b17 <;> first | rfl | skip
    · exact (h16.2 (h17.1 rfl)).symm ▸ rfl
    · exact (h17.2 (h16.1 rfl)) ▸ rfl
  subst hbb
  have fl : ∀ p : api_Lease → Bool, (l.filter p).length ≤ 100000 := fun p => Nat.le_trans (List.length_filter_le _ _) (by omega)
  refine Tot.bind (R := (· = true)) ?_ fun _ h => Tot.ret h
  refine Tot.bindeq (a := true) (by rw [if_pos rfl, t_Same22 r.1 r.1 rfl (by omega)]; rfl) (Tot.bindeq (a := true) (by rw [if_pos rfl, BEq.rfl]) (Tot.bindeq (a := true) (by rw [if_pos rfl, hint]; rfl) (Tot.bindeq (a := true) ?_ (Tot.bindeq (a := true) ?_ (Tot.bindeq (a := true) ?_ (Tot.ret rfl))))))
  · rw [if_pos rfl, p_Over l t (by omega), Option.bind_some, p_rOver l t (by omega), Option.bind_some, t_Same22 _ _ rfl (fl _)]; rfl
  · rw [if_pos rfl, p_Back l _ _ (by omega), Option.bind_some, p_rBack l _ _ (by omega), Option.bind_some, t_Same22 _ _ rfl (fl _)]; rfl
  · rw [if_pos rfl, e16, Option.bind_some, e17, Option.bind_some, BEq.rfl]
end Go.Proofs
