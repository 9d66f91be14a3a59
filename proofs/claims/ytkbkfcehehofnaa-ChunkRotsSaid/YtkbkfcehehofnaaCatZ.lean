/- What a plain program comes to: rules. No condition. -/
import Derived.Test.YtkbkfcehehofnaaCatW
namespace Go.Cat
set_option linter.all false

/-- It comes to an end, with such a thing. -/
def Tot {α : Type} (x : Option α) (Q : α → Prop) : Prop := ∃ r, x = some r ∧ Q r

theorem Tot.ret {α : Type} {a : α} {Q : α → Prop} (h : Q a) : Tot (some a) Q := ⟨a, rfl, h⟩
theorem Tot.mono {α : Type} {x : Option α} {Q R : α → Prop} (h : Tot x Q) (hm : ∀ a, Q a → R a) : Tot x R := let ⟨r, e, q⟩ := h; ⟨r, e, hm r q⟩
theorem Tot.bind {α β : Type} {x : Option α} {f : α → Option β} {R : α → Prop} {Q : β → Prop} (h : Tot x R) (hf : ∀ a, R a → Tot (f a) Q) : Tot (x.bind f) Q := by
  obtain ⟨a, rfl, ha⟩ := h
  exact hf a ha
theorem Tot.bindeq {α β : Type} {x : Option α} {f : α → Option β} {a : α} {Q : β → Prop} (h : x = some a) (hf : Tot (f a) Q) : Tot (x.bind f) Q := by
  subst h; exact hf
theorem Tot.chk {α : Type} {p : Prop} [Decidable p] {x : Option α} {Q : α → Prop} (hp : p) (h : Tot x Q) : Tot (Cat.chk p x) Q := by rw [chk_pos hp]; exact h
theorem Tot.ite {α : Type} {p : Prop} [Decidable p] {x y : Option α} {Q : α → Prop} (h : p → Tot x Q) (h' : ¬ p → Tot y Q) : Tot (if p then x else y) Q := by
  split
  · exact h ‹_›
  · exact h' ‹_›

/-- What one round comes to. -/
def RdP {σ ρ : Type} (P : σ → Prop) (Q : ρ → Prop) : σ ⊕ ρ → Prop
  | .inl s => P s
  | .inr r => Q r

theorem Tot.out {σ ρ : Type} {x : Option ρ} {P : σ → Prop} {Q : ρ → Prop} (h : Tot x Q) : Tot (Cat.out x) (RdP P Q) := by
  obtain ⟨a, rfl, ha⟩ := h
  exact ⟨.inr a, rfl, ha⟩
theorem Tot.inl {σ ρ : Type} {s : σ} {P : σ → Prop} {Q : ρ → Prop} (h : P s) : Tot (some (.inl s)) (RdP P Q) := ⟨_, rfl, h⟩

theorem Tot.loop {σ ρ : Type} {B : σ → Option (σ ⊕ ρ)} {Q : ρ → Prop} (P : σ → Prop) (m : σ → Nat)
    (hB : ∀ s, P s → Tot (B s) (RdP (fun s' => P s' ∧ m s' < m s) Q)) : ∀ s, P s → Tot (Cat.loop B s) Q := by
  have : ∀ n s, m s < n → P s → Tot (Cat.loop B s) Q := by
    intro n
    induction n with
    | zero => intro s h; omega
    | succ n ih =>
      intro s hn hs
      obtain ⟨y, hy, hq⟩ := hB s hs
      cases y with
      | inl s' => rw [loop_inl hy]; exact ih s' (by have := hq.2; omega) hq.1
      | inr r => rw [loop_inr hy]; exact ⟨r, rfl, hq⟩
  exact fun s hs => this _ s (Nat.lt_succ_self _) hs

theorem Tot.idx {α : Type} {l : List α} {i : Int} {Q : α → Prop} (h0 : 0 ≤ i) (h1 : i < l.length) (h : ∀ x, l[i.toNat]? = some x → Q x) : Tot (Cat.idx l i) Q := by
  have hl : i.toNat < l.length := by omega
  refine ⟨l[i.toNat], ?_, h _ (List.getElem?_eq_getElem hl)⟩
  unfold Cat.idx
  rw [if_pos h0, List.getElem?_eq_getElem hl]
theorem Tot.le0 {α : Type} {x y : Option α} {Q : α → Prop} (h : Le0 x y) (hx : Tot x Q) : Tot y Q := by
  obtain ⟨r, e, q⟩ := hx
  exact ⟨r, h r e, q⟩
theorem Tot.eq {α : Type} {x : Option α} {a : α} (h : Tot x (· = a)) : x = some a := by
  obtain ⟨r, e, q⟩ := h
  rw [e, q]
theorem Tot.of {α : Type} {x : Option α} {a : α} (h : x = some a) : Tot x (· = a) := ⟨a, h, rfl⟩

/-! What is told, and when. -/
def Tells (P : Prop) (b : Bool) : Prop := b = true ↔ P
theorem Tot.andI {a : Bool} {P Q : Prop} {y : Option Bool} (h : a = true ↔ P) (hy : P → Tot y (Tells Q)) : Tot (if a = true then y else some false) (Tells (P ∧ Q)) :=
  Tot.ite (fun ha => (hy (h.1 ha)).mono fun _ hb => ⟨fun e => ⟨h.1 ha, hb.1 e⟩, fun e => hb.2 e.2⟩) (fun ha => Tot.ret ⟨fun e => (by cases e), fun e => (ha (h.2 e.1)).elim⟩)
theorem Tot.orI {a : Bool} {P Q : Prop} {y : Option Bool} (h : a = true ↔ P) (hy : ¬ P → Tot y (Tells Q)) : Tot (if a = true then some true else y) (Tells (P ∨ Q)) :=
  Tot.ite (fun ha => Tot.ret ⟨fun _ => .inl (h.1 ha), fun _ => rfl⟩) (fun ha => (hy fun hp => ha (h.2 hp)).mono fun _ hb => ⟨fun e => .inr (hb.1 e), fun e => e.elim (fun hp => (ha (h.2 hp)).elim) hb.2⟩)
theorem Tot.dec {p : Prop} [Decidable p] {P : Prop} (h : p ↔ P) : Tot (some (decide p)) (Tells P) := Tot.ret (decide_eq_true_iff.trans h)
theorem Tot.is {b : Bool} {P : Prop} (h : b = true ↔ P) : Tot (some b) (Tells P) := Tot.ret h

/-! A loop that goes through a row. -/
theorem loop_each {α β ρ : Type} {b : List β} {B : α × Int → Option ((α × Int) ⊕ ρ)} (g : α → β → α) (I : α → Prop) (fin : α → ρ)
    (h1 : ∀ (a : α) (n : Nat) (x : β), I a → b[n]? = some x → n < b.length → B (a, (n : Int)) = some (.inl (g a x, (n : Int) + 1)))
    (hI : ∀ a x, x ∈ b → I a → I (g a x))
    (h2 : ∀ a, I a → B (a, (b.length : Int)) = some (.inr (fin a))) : ∀ a, I a → loop B (a, 0) = some (fin (b.foldl g a)) := by
  have key : ∀ (l : List β) (n : Nat) (a : α), b.drop n = l → n ≤ b.length → I a → loop B (a, (n : Int)) = some (fin (l.foldl g a)) := by
    intro l
    induction l with
    | nil =>
      intro n a hd hn ha
      have : n = b.length := by have := congrArg List.length hd; simp at this; omega
      subst this
      exact loop_inr (h2 a ha)
    | cons x l ih =>
      intro n a hd hn ha
      have hlt : n < b.length := by
        rcases Nat.lt_or_ge n b.length with h | h
        · exact h
        · rw [List.drop_eq_nil_of_le h] at hd; cases hd
      rw [List.drop_eq_getElem_cons hlt] at hd
      injection hd with hx hl
      rw [loop_inl (h1 a n x ha (by rw [List.getElem?_eq_getElem hlt, hx]) hlt)]
      exact ih (n + 1) (g a x) hl hlt (hI a x (hx ▸ List.getElem_mem hlt) ha)
  exact fun a ha => key b 0 a rfl (Nat.zero_le _) ha
theorem loop_each' {α β ρ : Type} {b : List β} {B : Int × α → Option ((Int × α) ⊕ ρ)} (g : α → β → α) (I : α → Prop) (fin : α → ρ)
    (h1 : ∀ (a : α) (n : Nat) (x : β), I a → b[n]? = some x → n < b.length → B ((n : Int), a) = some (.inl ((n : Int) + 1, g a x)))
    (hI : ∀ a x, x ∈ b → I a → I (g a x))
    (h2 : ∀ a, I a → B ((b.length : Int), a) = some (.inr (fin a))) : ∀ a, I a → loop B (0, a) = some (fin (b.foldl g a)) := by
  have key : ∀ (l : List β) (n : Nat) (a : α), b.drop n = l → n ≤ b.length → I a → loop B ((n : Int), a) = some (fin (l.foldl g a)) := by
    intro l
    induction l with
    | nil =>
      intro n a hd hn ha
      have : n = b.length := by have := congrArg List.length hd; simp at this; omega
      subst this
      exact loop_inr (h2 a ha)
    | cons x l ih =>
      intro n a hd hn ha
      have hlt : n < b.length := by
        rcases Nat.lt_or_ge n b.length with h | h
        · exact h
        · rw [List.drop_eq_nil_of_le h] at hd; cases hd
      rw [List.drop_eq_getElem_cons hlt] at hd
      injection hd with hx hl
      rw [loop_inl (h1 a n x ha (by rw [List.getElem?_eq_getElem hlt, hx]) hlt)]
      exact ih (n + 1) (g a x) hl hlt (hI a x (hx ▸ List.getElem_mem hlt) ha)
  exact fun a ha => key b 0 a rfl (Nat.zero_le _) ha

/-- A search: goes on over what is not it, goes out at the first. -/
theorem loop_find {β ρ : Type} {b : List β} {B : Int → Option (Int ⊕ ρ)} (p : β → Bool) (yes : Nat → β → ρ) (no : ρ)
    (h1 : ∀ (n : Nat) (x : β), b[n]? = some x → n < b.length → B (n : Int) = if p x then some (.inr (yes n x)) else some (.inl ((n : Int) + 1)))
    (h2 : B (b.length : Int) = some (.inr no)) :
    loop B 0 = some (match b.findIdx? p with | some n => (match b[n]? with | some x => yes n x | none => no) | none => no) := by
  have key : ∀ (l : List β) (n : Nat), b.drop n = l → n ≤ b.length → loop B (n : Int) = some (match l.findIdx? p with | some k => (match b[n + k]? with | some x => yes (n + k) x | none => no) | none => no) := by
    intro l
    induction l with
    | nil =>
      intro n hd hn
      have : n = b.length := by have := congrArg List.length hd; simp at this; omega
      subst this
      exact loop_inr h2
    | cons x l ih =>
      intro n hd hn
      have hlt : n < b.length := by
        rcases Nat.lt_or_ge n b.length with h | h
        · exact h
        · rw [List.drop_eq_nil_of_le h] at hd; cases hd
      rw [List.drop_eq_getElem_cons hlt] at hd
      injection hd with hx hl
      have hg : b[n]? = some x := by rw [List.getElem?_eq_getElem hlt, hx]
      have h := h1 n x hg hlt
      rw [List.findIdx?_cons]
      cases hp : p x with
      | true =>
        rw [hp] at h
        rw [loop_inr h]
        simp [hg]
      | false =>
        rw [hp] at h
        rw [loop_inl h, show ((n : Int) + 1) = ((n + 1 : Nat) : Int) from rfl, ih (n + 1) hl hlt]
        cases hf : l.findIdx? p with
        | none => simp
        | some k => simp [Nat.add_comm, Nat.add_left_comm]
  have := key b 0 rfl (Nat.zero_le _)
  simpa using this

theorem idx_some {β : Type} {b : List β} {n : Nat} {x : β} (h : b[n]? = some x) : idx b (n : Int) = some x := by rw [idx_of_nat, h]

/-! Numbers. -/
theorem wrap_u {k : IntKind} (hk : k.signed = false) (n : Int) : k.wrap n = n % 2 ^ k.bits := by simp [IntKind.wrap, hk]
theorem wrap_nat {k : IntKind} (hk : k.signed = false) {n : Nat} (h : n < 2 ^ k.bits) : k.wrap (n : Int) = n := by
  rw [wrap_u hk]
  have : ((n : Int) % ((2 ^ k.bits : Nat) : Int)) = ((n % 2 ^ k.bits : Nat) : Int) := by simp
  rw [Nat.mod_eq_of_lt h] at this
  simpa using this
theorem ofInt_nat {w n : Nat} (h : n < 2 ^ w) : (BitVec.ofInt w (n : Int)).toNat = n := by
  rw [BitVec.ofInt_natCast, BitVec.toNat_ofNat, Nat.mod_eq_of_lt h]
theorem andK_nat {k : IntKind} (hk : k.signed = false) {a b : Nat} (ha : a < 2 ^ k.bits) (hb : b < 2 ^ k.bits) : andK k (a : Int) (b : Int) = ((a &&& b : Nat) : Int) := by
  unfold andK
  rw [BitVec.toNat_and, ofInt_nat ha, ofInt_nat hb]
  exact wrap_nat hk (Nat.and_lt_two_pow _ hb)
theorem orK_nat {k : IntKind} (hk : k.signed = false) {a b : Nat} (ha : a < 2 ^ k.bits) (hb : b < 2 ^ k.bits) : orK k (a : Int) (b : Int) = ((a ||| b : Nat) : Int) := by
  unfold orK
  rw [BitVec.toNat_or, ofInt_nat ha, ofInt_nat hb]
  exact wrap_nat hk (Nat.or_lt_two_pow ha hb)
theorem xorK_nat {k : IntKind} (hk : k.signed = false) {a b : Nat} (ha : a < 2 ^ k.bits) (hb : b < 2 ^ k.bits) : xorK k (a : Int) (b : Int) = ((a ^^^ b : Nat) : Int) := by
  unfold xorK
  rw [BitVec.toNat_xor, ofInt_nat ha, ofInt_nat hb]
  exact wrap_nat hk (Nat.xor_lt_two_pow ha hb)
theorem shrK_nat {k : IntKind} {a b : Nat} (hb : b ≤ k.bits) : shrK k (a : Int) (b : Int) = ((a >>> b : Nat) : Int) := by
  unfold shrK
  rw [Int.toNat_natCast, Nat.min_eq_left hb, Nat.shiftRight_eq_div_pow]
  have : (2 ^ b : Int) = ((2 ^ b : Nat) : Int) := by simp
  rw [this, Int.fdiv_eq_ediv_of_nonneg _ (Int.natCast_nonneg _)]
  rfl
theorem shlK_nat {k : IntKind} (hk : k.signed = false) {a b : Nat} (hb : b ≤ k.bits) (h : a * 2 ^ b < 2 ^ k.bits) : shlK k (a : Int) (b : Int) = ((a * 2 ^ b : Nat) : Int) := by
  unfold shlK
  rw [Int.toNat_natCast, Nat.min_eq_left hb]
  have : (2 ^ b : Int) = ((2 ^ b : Nat) : Int) := by simp
  rw [this]
  exact wrap_nat hk h
theorem b32 : IntKind.u32.bits = 32 := rfl
theorem b64 : IntKind.u64.bits = 64 := rfl
theorem and32 {a b : Nat} (ha : a < 4294967296) (hb : b < 4294967296) : andK .u32 (a : Int) (b : Int) = ((a &&& b : Nat) : Int) := andK_nat rfl (by rw [b32]; simpa using ha) (by rw [b32]; simpa using hb)
theorem or32 {a b : Nat} (ha : a < 4294967296) (hb : b < 4294967296) : orK .u32 (a : Int) (b : Int) = ((a ||| b : Nat) : Int) := orK_nat rfl (by rw [b32]; simpa using ha) (by rw [b32]; simpa using hb)
theorem xor32 {a b : Nat} (ha : a < 4294967296) (hb : b < 4294967296) : xorK .u32 (a : Int) (b : Int) = ((a ^^^ b : Nat) : Int) := xorK_nat rfl (by rw [b32]; simpa using ha) (by rw [b32]; simpa using hb)
theorem shr32 {a b : Nat} (hb : b ≤ 32) : shrK .u32 (a : Int) (b : Int) = ((a >>> b : Nat) : Int) := shrK_nat hb
theorem and64 {a b : Nat} (ha : a < 18446744073709551616) (hb : b < 18446744073709551616) : andK .u64 (a : Int) (b : Int) = ((a &&& b : Nat) : Int) := andK_nat rfl (by rw [b64]; simpa using ha) (by rw [b64]; simpa using hb)
theorem or64 {a b : Nat} (ha : a < 18446744073709551616) (hb : b < 18446744073709551616) : orK .u64 (a : Int) (b : Int) = ((a ||| b : Nat) : Int) := orK_nat rfl (by rw [b64]; simpa using ha) (by rw [b64]; simpa using hb)
theorem xor64 {a b : Nat} (ha : a < 18446744073709551616) (hb : b < 18446744073709551616) : xorK .u64 (a : Int) (b : Int) = ((a ^^^ b : Nat) : Int) := xorK_nat rfl (by rw [b64]; simpa using ha) (by rw [b64]; simpa using hb)
theorem shr64 {a b : Nat} (hb : b ≤ 64) : shrK .u64 (a : Int) (b : Int) = ((a >>> b : Nat) : Int) := shrK_nat hb
theorem xlt32 {a b : Nat} (ha : a < 4294967296) (hb : b < 4294967296) : a ^^^ b < 4294967296 := by
  have := Nat.xor_lt_two_pow (n := 32) (x := a) (y := b) (by simpa using ha) (by simpa using hb)
  simpa using this
theorem wrap_lo {k : IntKind} (hk : k.signed = false) (n : Int) : ∃ m : Nat, k.wrap n = m ∧ m < 2 ^ k.bits := by
  rw [wrap_u hk]
  have h2 : (0 : Int) < 2 ^ k.bits := Int.pow_pos (by decide)
  have h1 := Int.emod_nonneg n (Int.ne_of_gt h2)
  have h3 := Int.emod_lt_of_pos n h2
  refine ⟨(n % 2 ^ k.bits).toNat, (Int.toNat_of_nonneg h1).symm, ?_⟩
  have : ((2 ^ k.bits : Nat) : Int) = 2 ^ k.bits := by simp
  omega
end Go.Cat
