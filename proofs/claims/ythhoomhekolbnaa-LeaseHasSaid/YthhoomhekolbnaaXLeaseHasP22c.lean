/- Leases, plain: what is asked, over, given back. No condition. -/
import Derived.Test.YthhoomhekolbnaaXLeaseHasP22b
import Derived.Test.YthhoomhekolbnaaXLeaseHasIn
import Derived.IntWalk
namespace Go.Proofs
set_option linter.all false
open Go Go.Cat
set_option linter.all false

theorem loop_eachN {α β ρ : Type} {b : List β} {B : Int × α → Option ((Int × α) ⊕ ρ)} (g : α → β → α) (I : Nat → α → Prop) (fin : α → ρ)
    (h1 : ∀ (a : α) (n : Nat) (x : β), I n a → b[n]? = some x → n < b.length → B ((n : Int), a) = some (.inl ((n : Int) + 1, g a x)) ∧ I (n + 1) (g a x))
    (h2 : ∀ a, I b.length a → B ((b.length : Int), a) = some (.inr (fin a))) : ∀ a, I 0 a → loop B (0, a) = some (fin (b.foldl g a)) ∧ I b.length (b.foldl g a) := by
  have key : ∀ (l : List β) (n : Nat) (a : α), b.drop n = l → n ≤ b.length → I n a → loop B ((n : Int), a) = some (fin (l.foldl g a)) ∧ I b.length (l.foldl g a) := by
    intro l
    induction l with
    | nil =>
      intro n a hd hn ha
      have : n = b.length := by have := congrArg List.length hd; simp at this; omega
      subst this
      exact ⟨loop_inr (h2 a ha), ha⟩
    | cons x l ih =>
      intro n a hd hn ha
      have hlt : n < b.length := by
        rcases Nat.lt_or_ge n b.length with h | h
        · exact h
        · rw [List.drop_eq_nil_of_le h] at hd; cases hd
      rw [List.drop_eq_getElem_cons hlt] at hd
      injection hd with hx hl
      obtain ⟨e, hi⟩ := h1 a n x ha (by rw [List.getElem?_eq_getElem hlt, hx]) hlt
      rw [loop_inl e]
      exact ih (n + 1) (g a x) hl hlt hi
  exact fun a ha => key b 0 a rfl (Nat.zero_le _) ha
theorem sorted_ext : ∀ {a b : List Int}, a.Pairwise (· < ·) → b.Pairwise (· < ·) → (∀ x, x ∈ a ↔ x ∈ b) → a = b
  | [], [], _, _, _ => rfl
  | [], y :: b, _, _, h => absurd ((h y).2 (List.mem_cons_self ..)) (by simp)
  | x :: a, [], _, _, h => absurd ((h x).1 (List.mem_cons_self ..)) (by simp)
  | x :: a, y :: b, ha, hb, h => by
    rw [List.pairwise_cons] at ha hb
    have e : x = y := by
      rcases List.mem_cons.1 ((h x).1 (List.mem_cons_self ..)) with h1 | h1
      · exact h1
      rcases List.mem_cons.1 ((h y).2 (List.mem_cons_self ..)) with h2 | h2
      · exact h2.symm
      have := ha.1 y h2
      have := hb.1 x h1
      omega
    subst e
    rw [sorted_ext ha.2 hb.2 fun z => ?_]
    constructor
    · intro hz
      rcases List.mem_cons.1 ((h z).1 (List.mem_cons_of_mem _ hz)) with h1 | h1
      · have := ha.1 z hz; omega
      · exact h1
    · intro hz
      rcases List.mem_cons.1 ((h z).2 (List.mem_cons_of_mem _ hz)) with h1 | h1
      · have := hb.1 z hz; omega
      · exact h1
theorem take_next {β : Type} {b : List β} {n : Nat} {x : β} (h : b[n]? = some x) : b.take (n + 1) = b.take n ++ [x] := by
  rw [List.take_add_one, h]; rfl

theorem fold_keep {α : Type} (p : α → Bool) : ∀ (l w : List α), l.foldl (fun w i => if p i = true then w ++ [i] else w) w = w ++ l.filter p := by
  intro l
  induction l with
  | nil => intro w; simp
  | cons y l ih =>
    intro w
    rw [List.foldl_cons, ih]
    cases hy : p y with
    | true => simp [hy]
    | false => simp [hy]


def spanP (s : api_Span) : Prop := (0 ≤ s.From ∧ s.From < s.To) ∧ s.To ≤ 1099511627776
def kindP (k : Int) : Prop := k = 1 ∨ k = 2
def oneP (x : api_Lease) : Prop := ((((((0 ≤ x.Client ∧ x.Client < 16) ∧ 1 ≤ x.Ino) ∧ kindP x.Kind) ∧ spanP x.Span) ∧ 0 ≤ x.Until) ∧ x.Until ≤ 4398046511104) ∧ 0 ≤ x.Epoch
theorem t_kinded (k : Int) : Tot (lease_kinded k) (Tells (kindP k)) := Tot.bind (Tot.bind (Tot.orI (P := k = 1) (Q := k = 2) (by simp) fun _ => Tot.is (by simp)) fun _ h => Tot.ret h) fun _ h => Tot.ret h
theorem t_spanned (s : api_Span) : Tot (lease_spanned s) (Tells (spanP s)) :=
  Tot.bind (Tot.bind (Tot.andI (P := 0 ≤ s.From) (Q := s.From < s.To) (by simp) fun _ => Tot.dec (by omega)) fun _ h => Tot.bind (Tot.andI (Q := s.To ≤ 1099511627776) h fun _ => Tot.dec (by omega)) fun _ h => Tot.ret h) fun _ h => Tot.ret h
theorem t_one (x : api_Lease) : Tot (lease_one x) (Tells (oneP x)) :=
  Tot.bind (Tot.bind (Tot.andI (P := 0 ≤ x.Client) (Q := x.Client < 16) (by simp) fun _ => Tot.dec (by omega)) fun _ h => Tot.bind (Tot.andI (Q := 1 ≤ x.Ino) h fun _ => Tot.dec (by omega)) fun _ h => Tot.bind (Tot.andI h fun _ => Tot.bind (t_kinded x.Kind) fun _ h => Tot.ret h) fun _ h => Tot.bind (Tot.andI h fun _ => Tot.bind (t_spanned x.Span) fun _ h => Tot.ret h) fun _ h => Tot.bind (Tot.andI (Q := 0 ≤ x.Until) h fun _ => Tot.dec (by omega)) fun _ h => Tot.bind (Tot.andI (Q := x.Until ≤ 4398046511104) h fun _ => Tot.dec (by omega)) fun _ h => Tot.bind (Tot.andI (Q := 0 ≤ x.Epoch) h fun _ => Tot.dec (by omega)) fun _ h => Tot.ret h) fun _ h => Tot.ret h
def clashB (a b : api_Lease) : Bool := a.Client != b.Client && (a.Ino == b.Ino && ((a.Kind == 2 || b.Kind == 2) && decide (max a.Span.From b.Span.From < min a.Span.To b.Span.To)))
def sameB (a b : api_Lease) : Bool := a.Client == b.Client && (a.Ino == b.Ino && (a.Kind == b.Kind && (a.Span.From == b.Span.From && a.Span.To == b.Span.To)))
theorem p_clash (a b : api_Lease) : lease_clash a b = some (clashB a b) := by
  unfold lease_clash clashB
  cases (a.Client != b.Client) <;> cases (a.Ino == b.Ino) <;> cases (a.Kind == 2) <;> cases (b.Kind == 2) <;> rfl
theorem p_ask1 (x q : api_Lease) : lease_Ask_1 x q.Client q.Ino q.Kind q.Span.From q.Span.To q.Until q.Epoch = some (clashB x q) := by
  unfold lease_Ask_1
  rw [p_clash]; rfl
theorem p_ask2 (x q : api_Lease) : lease_Ask_2 x q.Client q.Ino q.Kind q.Span.From q.Span.To q.Until q.Epoch = some (!sameB x q) := by
  unfold lease_Ask_2 sameB bne
  cases (x.Client == q.Client) <;> cases (x.Ino == q.Ino) <;> cases (x.Kind == q.Kind) <;> cases (x.Span.From == q.Span.From) <;> cases (x.Span.To == q.Span.To) <;> rfl
theorem p_back1 (x : api_Lease) (c i : Int) : lease_Back_1 x c i = some (x.Client != c || x.Ino != i) := by
  unfold lease_Back_1
  cases (x.Client != c) <;> cases (x.Ino != i) <;> rfl

theorem p_kOver (l : List api_Lease) (now : Int) (hl : l.length ≤ 100000) : lease_kept_api_Lease__lease_Over_1 l now = some (l.filter (fun x : api_Lease => decide (x.Until > now))) := by
  unfold lease_kept_api_Lease__lease_Over_1 lease_kept_api_Lease__lease_Over_1_L1
  have h := loop_eachN (b := l) (B := lease_kept_api_Lease__lease_Over_1_B1 l now) (fun w x => if (fun x : api_Lease => decide (x.Until > now)) x = true then w ++ [x] else w) (fun n w => w.length ≤ n) id (fun w n x hw hx hlt => ⟨by
    refine Tot.eq ?_
    unfold lease_kept_api_Lease__lease_Over_1_B1
    refine Tot.cond (by simp; omega) (Tot.bind (R := (· = if (fun x : api_Lease => decide (x.Until > now)) x = true then w ++ [x] else w)) (Tot.bindeq (idx_some hx) (Tot.bindeq rfl (Tot.ite (fun h => ?_) fun h => ?_))) fun v hv => Tot.chk (by unfold InI64; dsimp only; omega) (Tot.ret (by rw [hv])))
    · rw [if_pos h]; exact Tot.chk (by simp; omega) (Tot.ret rfl)
    · rw [if_neg h]; exact Tot.ret rfl, by
    have : (w ++ [x]).length = w.length + 1 := by simp
    split <;> omega⟩) (fun m hm => by
    unfold lease_kept_api_Lease__lease_Over_1_B1
    rw [if_neg (by simp)]; rfl) [] (Nat.le_refl _)
  have e : loop (lease_kept_api_Lease__lease_Over_1_B1 l now) (0, []) = some (l.filter (fun x : api_Lease => decide (x.Until > now))) := h.1.trans (congrArg some ((fold_keep _ l []).trans (List.nil_append _)))
  rw [e]; rfl
theorem p_Over (l : List api_Lease) (now : Int) (hl : l.length ≤ 100000) : lease_Over l now = some (l.filter (fun x : api_Lease => decide (x.Until > now))) := by
  unfold lease_Over
  rw [p_kOver l now hl]; rfl

theorem p_kAsk1 (l : List api_Lease) (q : api_Lease) (hl : l.length ≤ 100000) : lease_kept_api_Lease__lease_Ask_1 l q = some (l.filter (fun x : api_Lease => clashB x q)) := by
  unfold lease_kept_api_Lease__lease_Ask_1 lease_kept_api_Lease__lease_Ask_1_L1
  have h := loop_eachN (b := l) (B := lease_kept_api_Lease__lease_Ask_1_B1 l q) (fun w x => if (fun x : api_Lease => clashB x q) x = true then w ++ [x] else w) (fun n w => w.length ≤ n) id (fun w n x hw hx hlt => ⟨by
    refine Tot.eq ?_
    unfold lease_kept_api_Lease__lease_Ask_1_B1
    refine Tot.cond (by simp; omega) (Tot.bind (R := (· = if (fun x : api_Lease => clashB x q) x = true then w ++ [x] else w)) (Tot.bindeq (idx_some hx) (Tot.bindeq (p_ask1 x q) (Tot.ite (fun h => ?_) fun h => ?_))) fun v hv => Tot.chk (by unfold InI64; dsimp only; omega) (Tot.ret (by rw [hv])))
    · rw [if_pos h]; exact Tot.chk (by simp; omega) (Tot.ret rfl)
    · rw [if_neg h]; exact Tot.ret rfl, by
    have : (w ++ [x]).length = w.length + 1 := by simp
    split <;> omega⟩) (fun m hm => by
    unfold lease_kept_api_Lease__lease_Ask_1_B1
    rw [if_neg (by simp)]; rfl) [] (Nat.le_refl _)
  have e : loop (lease_kept_api_Lease__lease_Ask_1_B1 l q) (0, []) = some (l.filter (fun x : api_Lease => clashB x q)) := h.1.trans (congrArg some ((fold_keep _ l []).trans (List.nil_append _)))
  rw [e]; rfl

theorem p_kAsk2 (l : List api_Lease) (q : api_Lease) (hl : l.length ≤ 100000) : lease_kept_api_Lease__lease_Ask_2 l q = some (l.filter (fun x : api_Lease => !sameB x q)) := by
  unfold lease_kept_api_Lease__lease_Ask_2 lease_kept_api_Lease__lease_Ask_2_L1
  have h := loop_eachN (b := l) (B := lease_kept_api_Lease__lease_Ask_2_B1 l q) (fun w x => if (fun x : api_Lease => !sameB x q) x = true then w ++ [x] else w) (fun n w => w.length ≤ n) id (fun w n x hw hx hlt => ⟨by
    refine Tot.eq ?_
    unfold lease_kept_api_Lease__lease_Ask_2_B1
    refine Tot.cond (by simp; omega) (Tot.bind (R := (· = if (fun x : api_Lease => !sameB x q) x = true then w ++ [x] else w)) (Tot.bindeq (idx_some hx) (Tot.bindeq (p_ask2 x q) (Tot.ite (fun h => ?_) fun h => ?_))) fun v hv => Tot.chk (by unfold InI64; dsimp only; omega) (Tot.ret (by rw [hv])))
    · rw [if_pos h]; exact Tot.chk (by simp; omega) (Tot.ret rfl)
    · rw [if_neg h]; exact Tot.ret rfl, by
    have : (w ++ [x]).length = w.length + 1 := by simp
    split <;> omega⟩) (fun m hm => by
    unfold lease_kept_api_Lease__lease_Ask_2_B1
    rw [if_neg (by simp)]; rfl) [] (Nat.le_refl _)
  have e : loop (lease_kept_api_Lease__lease_Ask_2_B1 l q) (0, []) = some (l.filter (fun x : api_Lease => !sameB x q)) := h.1.trans (congrArg some ((fold_keep _ l []).trans (List.nil_append _)))
  rw [e]; rfl

theorem p_kBack (l : List api_Lease) (c i : Int) (hl : l.length ≤ 100000) : lease_kept_api_Lease__lease_Back_1 l c i = some (l.filter (fun x : api_Lease => x.Client != c || x.Ino != i)) := by
  unfold lease_kept_api_Lease__lease_Back_1 lease_kept_api_Lease__lease_Back_1_L1
  have h := loop_eachN (b := l) (B := lease_kept_api_Lease__lease_Back_1_B1 l c i) (fun w x => if (fun x : api_Lease => x.Client != c || x.Ino != i) x = true then w ++ [x] else w) (fun n w => w.length ≤ n) id (fun w n x hw hx hlt => ⟨by
    refine Tot.eq ?_
    unfold lease_kept_api_Lease__lease_Back_1_B1
    refine Tot.cond (by simp; omega) (Tot.bind (R := (· = if (fun x : api_Lease => x.Client != c || x.Ino != i) x = true then w ++ [x] else w)) (Tot.bindeq (idx_some hx) (Tot.bindeq (p_back1 x c i) (Tot.ite (fun h => ?_) fun h => ?_))) fun v hv => Tot.chk (by unfold InI64; dsimp only; omega) (Tot.ret (by rw [hv])))
    · rw [if_pos h]; exact Tot.chk (by simp; omega) (Tot.ret rfl)
    · rw [if_neg h]; exact Tot.ret rfl, by
    have : (w ++ [x]).length = w.length + 1 := by simp
    split <;> omega⟩) (fun m hm => by
    unfold lease_kept_api_Lease__lease_Back_1_B1
    rw [if_neg (by simp)]; rfl) [] (Nat.le_refl _)
  have e : loop (lease_kept_api_Lease__lease_Back_1_B1 l c i) (0, []) = some (l.filter (fun x : api_Lease => x.Client != c || x.Ino != i)) := h.1.trans (congrArg some ((fold_keep _ l []).trans (List.nil_append _)))
  rw [e]; rfl
theorem p_Back (l : List api_Lease) (c i : Int) (hl : l.length ≤ 100000) : lease_Back l c i = some (l.filter (fun x : api_Lease => x.Client != c || x.Ino != i)) := by
  unfold lease_Back
  rw [p_kBack l c i hl]; rfl

theorem wait_all : ∀ k : Nat, k < 64 → clock_Wait' 60 ((k : Int) + 1) = some ((k : Int) + 3) := by decide +kernel
theorem p_Wait {n : Int} (h : 1 ≤ n ∧ n ≤ 64) : clock_Wait n = some (n + 2) := by
  have := le_clock_Wait 60 _ _ (wait_all (n - 1).toNat (by omega))
  rw [show (((n - 1).toNat : Nat) : Int) + 1 = n by omega, show (((n - 1).toNat : Nat) : Int) + 3 = n + 2 by omega] at this
  exact this

/-- Numbers, each once, rising. -/
def OnceP (l r : List Int) : Prop := r.Pairwise (· < ·) ∧ ∀ x, x ∈ r ↔ x ∈ l
theorem rise_idx {l : List Int} (h : l.Pairwise (· ≤ ·)) {i j : Nat} {x y : Int} (hx : l[i]? = some x) (hy : l[j]? = some y) (hij : i ≤ j) : x ≤ y := by
  obtain ⟨hi, ex⟩ := List.getElem?_eq_some_iff.1 hx
  obtain ⟨hj, ey⟩ := List.getElem?_eq_some_iff.1 hy
  rcases Nat.lt_or_ge i j with h' | h'
  · have := List.pairwise_iff_getElem.1 h i j hi hj h'
    rw [ex, ey] at this; exact this
  · have : i = j := by omega
    subst this
    rw [ex] at ey; omega
/-- A row that rises, of what came up to n. -/
def UpTo (l m : List Int) (n : Nat) : Prop := m.Pairwise (· < ·) ∧ ∀ x, x ∈ m ↔ x ∈ l.take n
theorem UpTo.more {l m : List Int} (hs : l.Pairwise (· ≤ ·)) {n : Nat} (h : UpTo l m n) {x y : Int} (hy : l[n - 1]? = some y) (hn : 0 < n) (hx : l[n]? = some x) :
    UpTo l (if x = y then m else m ++ [x]) (n + 1) := by
  have ht : l.take (n + 1) = l.take n ++ [x] := take_next hx
  have hle : ∀ z, z ∈ l.take n → z ≤ y := fun z hz => by
    obtain ⟨k, hk⟩ := memR hz
    have hk2 := (getR hk).1
    have hlt : k < n := by simp at hk2; omega
    rw [List.getElem?_take_of_lt hlt] at hk
    exact rise_idx hs hk hy (by omega)
  have hyt : y ∈ l.take n := by
    have : (l.take n)[n - 1]? = some y := by rw [List.getElem?_take_of_lt (by omega)]; exact hy
    exact (getR this).2
  have hyx := rise_idx hs hy hx (by omega)
  by_cases e : x = y
  · rw [if_pos e]
    refine ⟨h.1, fun z => ?_⟩
    rw [ht, List.mem_append, List.mem_singleton, h.2]
    exact ⟨.inl, fun hz => hz.elim id fun ez => by rw [ez, e]; exact hyt⟩
  · rw [if_neg e]
    refine ⟨List.pairwise_append.2 ⟨h.1, List.pairwise_singleton _ _, fun a ha b hb => ?_⟩, fun z => ?_⟩
    · rw [List.mem_singleton.1 hb]
      have := hle a ((h.2 a).1 ha)
      omega
    · rw [ht, List.mem_append, List.mem_singleton, List.mem_append, List.mem_singleton, h.2]
theorem t_Compact (l : List Int) (hs : l.Pairwise (· ≤ ·)) (hl : l.length ≤ 100000) : Tot (slices_Compact_int_int l) (OnceP l) := by
  unfold slices_Compact_int_int slices_Compact_int_int_L1
  refine Tot.ite (fun hlt => Tot.ret ?_) fun hge => ?_
  · have hlt : l.length < 2 := by have : (l.length : Int) < 2 := by simpa using hlt
                                  omega
    refine ⟨?_, fun _ => Iff.rfl⟩
    match l, hlt with
    | [], _ => exact List.Pairwise.nil
    | [a], _ => exact List.pairwise_singleton _ _
  have hge : 2 ≤ l.length := by have : ¬ (l.length : Int) < 2 := by simpa using hge
                                omega
  refine Tot.loop (fun s : Int => ∃ k : Nat, s = k ∧ 1 ≤ k ∧ k ≤ l.length ∧ UpTo l (l.take k) k) (fun s => ((l.length : Int) - s).toNat) ?_ 1 ⟨1, rfl, Nat.le_refl _, by omega, ?_, fun _ => Iff.rfl⟩
  · rintro s ⟨k, rfl, h1, h2, hU⟩
    unfold slices_Compact_int_int_B1 slices_Compact_int_int_J1 slices_Compact_int_int_J2
    refine Tot.ite (fun hlt => ?_) fun hend => Tot.out (Tot.ret ?_)
    · have hlt : k < l.length := by simpa using hlt
      have hx := getLt hlt
      have hy := getLt (l := l) (n := k - 1) (by omega)
      generalize hxx : l[k] = x at hx
      generalize hyy : l[k - 1] = y at hy
      have hidy : idx l ((k : Int) - 1) = some y := by
        rw [show (k : Int) - 1 = ((k - 1 : Nat) : Int) by omega]; exact idx_some hy
      have hm := hU.more hs hy h1 hx
      refine Tot.bindeq (idx_some hx) (Tot.chk (by unfold InI64; omega) (Tot.bindeq hidy (Tot.ite (fun he => ?_) fun he => Tot.chk (by unfold InI64; omega) (Tot.inl ⟨⟨k + 1, by omega, by omega, hlt, ?_⟩, by omega⟩))))
      · have he : x = y := by simpa using he
        refine Tot.chk (by omega) (Tot.bind (R := fun v : Int × List Int => ∃ i : Nat, v.1 = i ∧ i ≤ v.2.length ∧ UpTo l (v.2.take i) l.length) ?_ fun v hv => ?_)
        · rw [if_pos he] at hm
          unfold slices_Compact_int_int_L2
          refine Tot.loop (fun s : Int × Int × List Int => ∃ i j : Nat, s.1 = i ∧ s.2.1 = j ∧ 1 ≤ j ∧ k + j ≤ l.length ∧ i ≤ k + (j - 1) ∧ s.2.2.length = l.length ∧ s.2.2.drop (k + (j - 1)) = l.drop (k + (j - 1)) ∧ UpTo l (s.2.2.take i) (k + j)) (fun s => ((l.length : Int) - s.2.1).toNat) ?_ _ ⟨k, 1, rfl, rfl, Nat.le_refl _, by omega, by omega, rfl, rfl, hm⟩
          rintro ⟨si, sj, m⟩ ⟨i, j, e1, e2, j1, j2, j3, j4, j5, j6⟩
          dsimp only at e1 e2 j4 j5 j6
          subst e1 e2
          have hdl : (m.drop ((k : Int).toNat)).length = l.length - k := by simp [j4]
          unfold slices_Compact_int_int_B2
          refine Tot.ite (fun hjl => ?_) fun hjg => Tot.out (Tot.ret ⟨i, rfl, by dsimp only; omega, ?_⟩)
          · have hjl : j < l.length - k := by have : (j : Int) < ((m.drop ((k : Int).toNat)).length : Int) := by simpa using hjl
                                              omega
            have hmk : ∀ q, k + (j - 1) ≤ q → m[q]? = l[q]? := fun q hq => by
              have := congrArg (fun z : List Int => z[q - (k + (j - 1))]?) j5
              simp only [List.getElem?_drop] at this
              rwa [show k + (j - 1) + (q - (k + (j - 1))) = q by omega] at this
            have ha := getLt (l := l) (n := k + j) (by omega)
            have hb := getLt (l := l) (n := k + j - 1) (by omega)
            generalize l[k + j] = a at ha
            generalize l[k + j - 1] = b at hb
            have ida : idx (m.drop ((k : Int).toNat)) (j : Int) = some a := idx_some (by rw [List.getElem?_drop, Int.toNat_natCast, hmk _ (by omega)]; exact ha)
            have idb : idx (m.drop ((k : Int).toNat)) ((j : Int) - 1) = some b := by
              rw [show (j : Int) - 1 = ((j - 1 : Nat) : Int) by omega]
              exact idx_some (by rw [List.getElem?_drop, Int.toNat_natCast, hmk _ (by omega), show k + (j - 1) = k + j - 1 by omega]; exact hb)
            have hmore := j6.more hs hb (by omega) ha
            refine Tot.bind (R := fun v : Int × List Int => ∃ i' : Nat, v.1 = i' ∧ i' ≤ k + j ∧ v.2.length = l.length ∧ v.2.drop (k + j) = l.drop (k + j) ∧ UpTo l (v.2.take i') (k + j + 1)) (Tot.bindeq ida (Tot.chk (by unfold InI64; dsimp only; omega) (Tot.bindeq idb (Tot.ite (fun hne => ?_) fun heq => Tot.ret ⟨i, rfl, by omega, j4, ?_, ?_⟩)))) fun v hv => ?_
            · have hne : ¬ a = b := by simpa using hne
              rw [if_neg hne] at hmore
              have hi := getLt (l := m) (n := i) (by omega)
              refine Tot.bindeq ida (Tot.bindeq (idx_some hi) (Tot.chk (by unfold InI64; dsimp only; omega) (Tot.ret ⟨i + 1, rfl, by omega, by simpa using j4, ?_, ?_⟩)))
              · show (m.set (i : Int).toNat a).drop (k + j) = _
                rw [Int.toNat_natCast, List.drop_set_of_lt (by omega)]
                refine List.ext_getElem? fun q => ?_
                rw [List.getElem?_drop, List.getElem?_drop, hmk _ (by omega)]
              · show UpTo l ((m.set (i : Int).toNat a).take (i + 1)) _
                have hset : (m.set i a)[i]? = some a := by rw [List.getElem?_set_self (by omega)]
                rw [Int.toNat_natCast, take_next hset, List.take_set_of_le (Nat.le_refl i)]
                exact hmore
            · refine List.ext_getElem? fun q => ?_
              show (m.drop (k + j))[q]? = _
              rw [List.getElem?_drop, List.getElem?_drop, hmk _ (by omega)]
            · have heq : a = b := by simpa using heq
              rw [if_pos heq] at hmore; exact hmore
            · obtain ⟨i', q1, q2, q3, q4, q5⟩ := hv
              exact Tot.chk (by unfold InI64; dsimp only; omega) (Tot.inl ⟨⟨i', j + 1, q1, rfl, by omega, by omega, by omega, q3, by rw [show k + (j + 1 - 1) = k + j by omega]; exact q4, by rw [show k + (j + 1) = k + j + 1 by omega]; exact q5⟩, by dsimp only; omega⟩)
          · have hjg : ¬ j < l.length - k := fun h => hjg (by rw [hdl]; simp; omega)
            have : k + j = l.length := by omega
            dsimp only
            rw [this] at j6; exact j6
        · obtain ⟨i, q1, q2, q3⟩ := hv
          have htn : v.1.toNat = i := by omega
          have hlen : (v.2.take v.1.toNat ++ List.replicate (v.2.length - v.1.toNat) (0 : Int)).length = v.2.length := by simp; omega
          refine Tot.chk (by omega) (Tot.chk ⟨by omega, by rw [hlen]; omega⟩ (Tot.out (Tot.ret ?_)))
          rw [htn, List.take_append_of_le_length (by simp; omega), List.take_take, Nat.min_self]
          rw [UpTo, List.take_length] at q3
          exact q3
      · have he : ¬ x = y := by simpa using he
        rw [if_neg he] at hm
        rw [take_next hx]; exact hm
    · have : k = l.length := by have : ¬ k < l.length := by simpa using hend
                                omega
      subst this
      rw [UpTo, List.take_length] at hU
      exact hU
  · match l, hge with
    | a :: b :: r, _ => exact List.pairwise_singleton _ _
theorem t_once (l : List Int) (hl : l.length ≤ 100000) : Tot (lease_once_int l) (OnceP l) := by
  unfold lease_once_int
  refine Tot.bindeq (a := ()) rfl (Tot.chk (by omega) (Tot.bindeq (a := sortI l) rfl ?_))
  have hs : (sortI l).Pairwise (fun a b => decide (a ≤ b) = true) := List.pairwise_mergeSort (fun a b c h1 h2 => by simp only [decide_eq_true_eq] at *; omega) (fun a b => by simp; omega) _
  refine Tot.bind (t_Compact (sortI l) (hs.imp fun h => of_decide_eq_true h) (by unfold sortI; rw [List.length_mergeSort]; omega)) fun r hr => Tot.ret ⟨hr.1, fun x => (hr.2 x).trans List.mem_mergeSort⟩

/-! What is asked. -/
def q0 (q : api_Lease) : api_Lease := ⟨q.Client, q.Ino, q.Kind, q.Span, 0, q.Epoch⟩
def overN (l : List api_Lease) (now : Int) : List api_Lease := l.filter fun x => decide (x.Until > now)
def whoN (l : List api_Lease) (now : Int) (q : api_Lease) : List Int := ((overN l now).filter fun x => clashB x (q0 q)).map (·.Client)
def keptN (l : List api_Lease) (now : Int) (q : api_Lease) : List api_Lease := (overN l now).filter fun x => !sameB x (q0 q)
structure AskP (l : List api_Lease) (now : Int) (q : api_Lease) (many : Int) (r : List api_Lease × Bool × List Int) : Prop where
  bad : ¬ (oneP (q0 q) ∧ 1 ≤ many ∧ many ≤ 64) → r = (l, false, [])
  no : oneP (q0 q) ∧ 1 ≤ many ∧ many ≤ 64 → whoN l now q ≠ [] → r.1 = overN l now ∧ r.2.1 = false ∧ OnceP (whoN l now q) r.2.2
  full : oneP (q0 q) ∧ 1 ≤ many ∧ many ≤ 64 → whoN l now q = [] → 64 ≤ (keptN l now q).length → r = (overN l now, false, [])
  yes : oneP (q0 q) ∧ 1 ≤ many ∧ many ≤ 64 → whoN l now q = [] → (keptN l now q).length < 64 → r = (keptN l now q ++ [⟨q.Client, q.Ino, q.Kind, q.Span, now + (many + 2), q.Epoch⟩], true, [])
theorem t_Ask (l : List api_Lease) (now : Int) (q : api_Lease) (many : Int) (hl : l.length ≤ 10000) (hn : -4611686018427387904 ≤ now ∧ now ≤ 4611686018427387904) : Tot (lease_Ask l now q many) (AskP l now q many) := by
  unfold lease_Ask
  refine Tot.bind (R := Tells (¬ (oneP (q0 q) ∧ 1 ≤ many ∧ many ≤ 64))) ?_ fun v hv => Tot.ite (fun ht => ?_) fun hf => ?_
  · refine Tot.bind (t_one (q0 q)) fun x1 h1 => Tot.bind (R := Tells (¬ oneP (q0 q) ∨ many < 1)) (Tot.orI (h1.not) fun _ => Tot.dec (by omega)) fun c1 g1 => Tot.bind (R := Tells ((¬ oneP (q0 q) ∨ many < 1) ∨ 64 < many)) (Tot.orI g1 fun _ => Tot.dec (by omega)) fun c2 g2 => Tot.ret (g2.iff ⟨fun h => ?_, fun h => ?_⟩)
    · rintro ⟨a, b, c⟩
      rcases h with (h | h) | h
      · exact h a
      · omega
      · omega
    · by_cases a : oneP (q0 q)
      · by_cases b : many < 1
        · exact .inl (.inr b)
        · exact .inr (by
            have : ¬ many ≤ 64 := fun c => h ⟨a, by omega, c⟩
            omega)
      · exact .inl (.inl a)
  · have hb := hv.1 ht
    exact Tot.ret ⟨fun _ => rfl, fun h => absurd h hb, fun h => absurd h hb, fun h => absurd h hb⟩
  have hg : oneP (q0 q) ∧ 1 ≤ many ∧ many ≤ 64 := Classical.byContradiction fun h => hf (hv.2 h)
  have hol : (overN l now).length ≤ l.length := List.length_filter_le _ _
  refine Tot.bindeq (p_Over l now (by omega)) ?_
  show Tot (((lease_kept_api_Lease__lease_Ask_1 (overN l now) (q0 q)).bind fun x3 => lease_Ask_L1 x3 (0, [])).bind _) _
  have hfl : ((overN l now).filter fun x => clashB x (q0 q)).length ≤ l.length := Nat.le_trans (List.length_filter_le _ _) hol
  refine Tot.bindeq (a := whoN l now q) ?_ ?_
  · rw [p_kAsk1 _ _ (by omega), Option.bind_some]
    unfold lease_Ask_L1 whoN
    generalize (overN l now).filter (fun x => clashB x (q0 q)) = w at hfl
    have h := loop_eachN (b := w) (B := lease_Ask_B1 w) (fun a x => a ++ [x.Client]) (fun n a => a.length ≤ n) id (fun a n x ha hx hlt => ⟨by
      refine Tot.eq ?_
      unfold lease_Ask_B1
      exact Tot.cond (by simp; omega) (Tot.bindeq (idx_some hx) (Tot.chk (by simp; omega) (Tot.chk (by unfold InI64; dsimp only; omega) (Tot.ret rfl)))), by simp; omega⟩) (fun a ha => by
      unfold lease_Ask_B1
      rw [if_neg (by simp)]; rfl) [] (Nat.le_refl _)
    refine h.1.trans (congrArg some ?_)
    have key : ∀ (l : List api_Lease) (a : List Int), l.foldl (fun a x => a ++ [x.Client]) a = a ++ l.map (·.Client) := by
      intro l
      induction l with
      | nil => intro a; simp
      | cons y l ih => intro a; rw [List.foldl_cons, ih]; simp
    exact (key w []).trans (List.nil_append _)
  have hwl : (whoN l now q).length ≤ l.length := by unfold whoN; rw [List.length_map]; exact hfl
  refine Tot.ite (fun hw => ?_) fun hw => ?_
  · have hw : whoN l now q ≠ [] := fun e => by rw [e] at hw; simp at hw
    exact Tot.bind (t_once _ (by omega)) fun r hr => Tot.ret ⟨fun h => absurd hg h, fun _ _ => ⟨rfl, rfl, hr⟩, fun _ h => absurd h hw, fun _ h => absurd h hw⟩
  have hw : whoN l now q = [] := List.length_eq_zero_iff.1 (by have : ¬ ((whoN l now q).length : Int) > 0 := by simpa using hw
                                                               omega)
  show Tot ((lease_kept_api_Lease__lease_Ask_2 (overN l now) (q0 q)).bind _) _
  refine Tot.bindeq (a := keptN l now q) (p_kAsk2 _ _ (by omega)) ?_
  have hkl : (keptN l now q).length ≤ l.length := Nat.le_trans (List.length_filter_le _ _) hol
  refine Tot.ite (fun h64 => Tot.ret ?_) fun h64 => ?_
  · have h64 : 64 ≤ (keptN l now q).length := by have : ((keptN l now q).length : Int) ≥ 64 := by simpa using h64
                                                 omega
    exact ⟨fun h => absurd hg h, fun _ h => absurd hw h, fun _ _ _ => rfl, fun _ _ h => by omega⟩
  have h64 : (keptN l now q).length < 64 := by have : ¬ ((keptN l now q).length : Int) ≥ 64 := by simpa using h64
                                               omega
  refine Tot.bindeq (p_Wait hg.2) (Tot.chk (by unfold InI64; omega) (Tot.chk (by simp; omega) (Tot.ret ?_)))
  exact ⟨fun h => absurd hg h, fun _ h => absurd hw h, fun _ _ h => by omega, fun _ _ _ => rfl⟩

/-! What is right. -/
def RightL (l : List api_Lease) : Prop := (∀ x, x ∈ l → oneP x) ∧ l.Pairwise fun a b => clashB b a = false
end Go.Proofs
