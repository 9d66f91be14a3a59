/- Disks, plain: a bit that is turned. No condition. -/
import Derived.Test.YtlhgbjgfnihijaaXDiskTellsP04f
namespace Go.Proofs
set_option linter.all false
open Go Go.Cat

theorem p_IndexR (l : List api_Page) (a : Int) (h : l.length ≤ 100000) : disk_find_api_Page__disk_Rot_1 l a = some (match l.findIdx? (fun p => p.At == a) with | some n => (n : Int) | none => -1) := by
  unfold disk_find_api_Page__disk_Rot_1 slices_IndexFunc_api_Page_api_Page__disk_Rot_1 slices_IndexFunc_api_Page_api_Page__disk_Rot_1_L1
  have := loop_find (b := l) (B := slices_IndexFunc_api_Page_api_Page__disk_Rot_1_B1 l a) (fun p => p.At == a) (fun n _ => (n : Int)) (-1) ?_ ?_
  · rw [this]
    simp only [Option.bind_some]
    congr 1
    cases hf : l.findIdx? (fun p => p.At == a) with
    | none => rfl
    | some n =>
      have := List.findIdx?_eq_some_iff_getElem.1 hf
      obtain ⟨hn, -⟩ := this
      simp [List.getElem?_eq_getElem hn]
  · intro n x hx hn
    cases hc : x.At == a
    · rw [if_neg (by decide)]
      refine Tot.eq ?_
      unfold slices_IndexFunc_api_Page_api_Page__disk_Rot_1_B1 disk_Rot_1
      exact Tot.ite (fun _ => Tot.bindeq (idx_some hx) (Tot.bindeq rfl (Tot.ite (fun h => by rw [hc] at h; cases h) (fun h => Tot.chk (by unfold InI64; omega) (Tot.ret rfl))))) (fun hh => absurd hh (by simp; omega))
    · rw [if_pos rfl]
      refine Tot.eq ?_
      unfold slices_IndexFunc_api_Page_api_Page__disk_Rot_1_B1 disk_Rot_1
      exact Tot.ite (fun _ => Tot.bindeq (idx_some hx) (Tot.bindeq rfl (Tot.ite (fun h => ⟨_, rfl, rfl⟩) (fun h => absurd hc h)))) (fun hh => absurd hh (by simp; omega))
  · unfold slices_IndexFunc_api_Page_api_Page__disk_Rot_1_B1 slices_IndexFunc_api_Page_api_Page__disk_Rot_1_J1
    rw [if_neg (by simp)]; rfl

theorem tot_both {α : Type} {x : Option α} {Q R : α → Prop} (h : Tot x Q) (h' : Tot x R) : Tot x (fun a => Q a ∧ R a) := by
  obtain ⟨a, e, q⟩ := h
  obtain ⟨b, e', r⟩ := h'
  rw [e] at e'; cases e'
  exact ⟨a, e, q, r⟩
theorem adj_asc {l : List api_Page} (h : ∀ (j : Nat) x y, l[j]? = some x → l[j + 1]? = some y → x.At < y.At) : Asc l := by
  have k : ∀ (k i : Nat) x y, l[i]? = some x → l[i + 1 + k]? = some y → x.At < y.At := by
    intro k
    induction k with
    | zero => exact h
    | succ k ih =>
      intro i x y hx hy
      have hlt : i + 1 + k < l.length := by have := (getR hy).1; omega
      exact Int.lt_trans (ih i x _ hx (getLt hlt)) (h _ _ _ (getLt hlt) hy)
  refine List.pairwise_iff_getElem.2 fun i j hi hj hij => ?_
  exact k (j - i - 1) i _ _ (getLt hi) (by rw [show i + 1 + (j - i - 1) = j by omega]; exact getLt hj)
theorem t_Asc (d : api_Disk) (hs : d.Synced.length ≤ 1000) (hl : d.Loose.length ≤ 1000) : Tot (ref04_Right d) (fun b => b = true → Asc d.Synced) := by
  unfold ref04_Right ref04_Right_L1
  refine Tot.loop (fun s : Int => 0 ≤ s ∧ s ≤ (d.Synced.length : Int) ∧ ∀ j : Nat, j + 1 < s.toNat → ∀ x y, d.Synced[j]? = some x → d.Synced[j + 1]? = some y → x.At < y.At) (fun s => ((d.Synced.length : Int) - s).toNat) ?_ 0 ⟨by simp, by simp, fun j hj => by simp at hj⟩
  rintro s ⟨g0, g1, g2⟩
  unfold ref04_Right_B1
  refine Tot.ite (fun hlt => ?_) (fun hge => Tot.out ?_)
  · have hlt : s < d.Synced.length := by simpa using hlt
    refine Tot.bind (Tot.idx g0 hlt (Q := fun y => d.Synced[s.toNat]? = some y) fun _ h => h) fun x hx => Tot.bind (p_Page x) fun b hb => Tot.bind (R := fun v => v = false → ∀ y, 0 < s → d.Synced[(s - 1).toNat]? = some y → y.At < x.At) ?_ fun v hv => Tot.ite (fun _ => Tot.out (Tot.ret fun e => by cases e)) fun hf => Tot.chk (by unfold InI64; omega) (Tot.inl ⟨⟨by omega, by omega, fun j hj y z hy hz => ?_⟩, by omega⟩)
    · refine Tot.bind (R := fun v => v = false → ∀ y, 0 < s → d.Synced[(s - 1).toNat]? = some y → y.At < x.At) (Tot.ite (fun _ => Tot.ret fun e => by cases e) fun hb2 => ?_) fun v hv => Tot.ret hv
      refine Tot.bind (R := fun v => v = false → ∀ y, 0 < s → d.Synced[(s - 1).toNat]? = some y → y.At < x.At) (Tot.ite (fun hp => ?_) fun hp => Tot.ret fun _ y h0 => absurd h0 (by simpa using hp)) fun v hv => Tot.ret hv
      have hp : 0 < s := by simpa using hp
      refine Tot.bind (Tot.idx g0 hlt (Q := fun y => d.Synced[s.toNat]? = some y) fun _ h => h) fun x3 hx3 => Tot.chk (by unfold InI64; omega) (Tot.bind (Tot.idx (by omega) (by omega) (Q := fun y => d.Synced[(s - 1).toNat]? = some y) fun _ h => h) fun x4 hx4 => Tot.ret fun e y _ hy => ?_)
      rw [hx] at hx3; cases hx3
      rw [hx4] at hy; cases hy
      have := of_decide_eq_false e
      omega
    · rcases Nat.lt_or_ge (j + 1) s.toNat with h1 | h1
      · exact g2 j h1 y z hy hz
      · have e1 : j + 1 = s.toNat := by omega
        rw [e1, hx] at hz; cases hz
        exact hv (by simpa using hf) y (by omega) (by rw [show (s - 1).toNat = j by omega]; exact hy)
  · have hge : ¬ s < d.Synced.length := by simpa using hge
    have hA : Asc d.Synced := adj_asc fun j x y hx hy => g2 j (by have := (getR hy).1; omega) x y hx hy
    unfold ref04_Right_J1 ref04_Right_L2
    refine Tot.loop (fun s : Int => 0 ≤ s ∧ s ≤ (d.Loose.length : Int)) (fun s => ((d.Loose.length : Int) - s).toNat) ?_ 0 ⟨by simp, by simp⟩
    rintro s ⟨g0, g1⟩
    unfold ref04_Right_B2
    refine Tot.ite (fun hlt => ?_) (fun hge => Tot.out ?_)
    · have hlt : s < d.Loose.length := by simpa using hlt
      exact Tot.bind (Tot.idx g0 hlt (Q := fun _ => True) fun _ _ => trivial) fun x _ => Tot.bind (p_Page x) fun b hb => Tot.ite (fun _ => Tot.out (Tot.ret fun e => by cases e)) fun hf => Tot.chk (by unfold InI64; omega) (Tot.inl ⟨⟨by omega, by omega⟩, by omega⟩)
    · unfold ref04_Right_J2
      exact Tot.bind (R := fun _ => True) (Tot.bind (R := fun _ => True) (Tot.ite (fun _ => Tot.ret trivial) fun _ => Tot.ret trivial) fun _ _ => Tot.ret trivial) fun _ _ => Tot.ret fun _ => hA
theorem t_Fits2 (d : api_Disk) : Tot (law04_Fits d) (fun b => b = true → Few d 60 ∧ Asc d.Synced) := by
  unfold law04_Fits
  refine Tot.bind (R := Tells (d.Synced.length > 60 ∨ d.Loose.length > 60)) (Tot.bind (Tot.orI (P := d.Synced.length > 60) (Q := d.Loose.length > 60) (by simp; omega) fun _ => Tot.ret (by unfold Tells; simp; omega)) fun _ h => Tot.ret h) fun v hv => Tot.ite (fun _ => Tot.ret fun e => by cases e) fun hn => ?_
  have hn : ¬ (d.Synced.length > 60 ∨ d.Loose.length > 60) := fun h => hn (hv.2 h)
  exact Tot.bind (tot_both (t_Right d (by omega) (by omega)) (t_Asc d (by omega) (by omega))) fun b hb => Tot.ret fun h => ⟨⟨by omega, by omega, (hb.1 h).1, (hb.1 h).2.1⟩, hb.2 h⟩

theorem idx_split {a : Int} : ∀ {S : List api_Page} {n : Nat}, S.findIdx? (fun p => p.At == a) = some n → ∃ l1 p l2, S = l1 ++ p :: l2 ∧ p.At = a ∧ ∀ x, x ∈ l1 → x.At ≠ a
  | [], n, h => by simp at h
  | q :: S, n, h => by
    rw [List.findIdx?_cons] at h
    split at h
    · rename_i hq
      exact ⟨[], q, S, rfl, by simpa using hq, fun x hx => by cases hx⟩
    · rename_i hq
      cases hs : S.findIdx? (fun p => p.At == a) with
      | none => rw [hs] at h; cases h
      | some m =>
        obtain ⟨l1, p, l2, e, hp, hl⟩ := idx_split hs
        refine ⟨q :: l1, p, l2, by rw [e]; rfl, hp, fun x hx => ?_⟩
        rcases List.mem_cons.1 hx with e | hx
        · rw [e]; simpa using hq
        · exact hl x hx
theorem split_idx {a : Int} {p : api_Page} {l2 : List api_Page} (hp : p.At = a) : ∀ {l1 : List api_Page}, (∀ x, x ∈ l1 → x.At ≠ a) → (l1 ++ p :: l2).findIdx? (fun p => p.At == a) = some l1.length
  | [], _ => by simp [List.findIdx?_cons, hp]
  | q :: l1, h => by
    have hq : (q.At == a) = false := by simpa using h q (by simp)
    rw [List.cons_append, List.findIdx?_cons, hq, split_idx hp fun x hx => h x (by simp [hx])]
    rfl
theorem last_append (l o : List api_Page) (b : Int) : lastAt (l ++ o) b = (lastAt o b).or (lastAt l b) := by
  unfold lastAt; rw [List.reverse_append, List.find?_append]
theorem last_none {l : List api_Page} {b : Int} (h : ∀ x, x ∈ l → x.At ≠ b) : lastAt l b = none := by
  unfold lastAt; rw [List.find?_eq_none]; intro x hx; simpa using h x (List.mem_reverse.1 hx)
theorem last_cons (p : api_Page) (l : List api_Page) (b : Int) : lastAt (p :: l) b = (lastAt l b).or (if p.At = b then some p else none) := by
  have := last_append [p] l b
  rw [List.singleton_append] at this
  rw [this]; congr 1
  by_cases h : p.At = b <;> simp [lastAt, h]
def msk (bit : Int) : UInt8 := toU8 (shlK .u8 1 (Int.tmod bit 8))
theorem msk_ne {bit : Int} (h : 0 ≤ bit) : msk bit ≠ 0 := by
  have h1 : 0 ≤ bit.tmod 8 := Int.tmod_nonneg _ h
  have h2 : bit.tmod 8 < 8 := Int.tmod_lt_of_pos _ (by decide)
  unfold msk
  generalize bit.tmod 8 = r at h1 h2
  have : r = 0 ∨ r = 1 ∨ r = 2 ∨ r = 3 ∨ r = 4 ∨ r = 5 ∨ r = 6 ∨ r = 7 := by omega
  rcases this with h | h | h | h | h | h | h | h <;> subst h <;> decide
theorem xor_back (x m : UInt8) : (x ^^^ m) ^^^ m = x := by rw [UInt8.xor_assoc, UInt8.xor_self, UInt8.xor_zero]
theorem xor_other {x m : UInt8} (h : m ≠ 0) : x ^^^ m ≠ x := fun e => h (by
  have : x ^^^ (x ^^^ m) = x ^^^ x := by rw [e]
  rwa [← UInt8.xor_assoc, UInt8.xor_self, UInt8.zero_xor] at this)
theorem wrapi {n : Int} (h : InI64 n) : IntKind.i64.wrap n = n := IntWalk.i64_in _ h
theorem quo8 {bit : Int} (h : 0 ≤ bit) (h1 : bit < 1000000) : quoK .i64 bit 8 = ((bit.toNat / 8 : Nat) : Int) := by
  unfold quoK
  rw [Int.tdiv_eq_ediv_of_nonneg h]
  have e : bit / 8 = ((bit.toNat / 8 : Nat) : Int) := by omega
  rw [e]
  exact wrapi (by unfold InI64; omega)

theorem rot_ok {l1 l2 L : List api_Page} {p : api_Page} {b : Bool} {a bit : Int} {x : UInt8} (hp : p.At = a) (hl : ∀ x, x ∈ l1 → x.At ≠ a) (hn : (l1 ++ p :: l2).length ≤ 1000) (hd : p.Data.length ≤ 1000)
    (h0 : 0 ≤ bit) (h1 : bit < 8 * (p.Data.length : Int)) (hx : p.Data[bit.toNat / 8]? = some x) :
    disk_Rot ⟨l1 ++ p :: l2, L, b⟩ a bit = some ⟨l1 ++ ⟨p.At, p.Data.set (bit.toNat / 8) (x ^^^ msk bit)⟩ :: l2, L, b⟩ := by
  have hi : (l1 ++ p :: l2)[l1.length]? = some p := by simp
  have hq := quo8 h0 (by omega)
  refine Tot.eq ?_
  unfold disk_Rot
  have e := p_IndexR (l1 ++ p :: l2) a (by omega)
  rw [split_idx hp hl] at e
  refine Tot.bindeq e (Tot.bind (R := (· = false)) ?_ fun v hv => ?_)
  · refine Tot.bind (R := (· = false)) (Tot.ncond (by simp) (Tot.ret (by simp; omega))) fun v hv => ?_
    subst hv
    exact Tot.bind (R := (· = false)) (Tot.ncond (by decide) (Tot.bindeq (idx_some hi) (Tot.chk (by unfold InI64; omega) (Tot.ret (by simp; omega))))) fun _ h => Tot.ret h
  · subst hv
    refine Tot.ncond (by decide) (Tot.bindeq (idx_some hi) (Tot.bindeq (p_bClone _ (by omega)) ?_))
    rw [hq]
    refine Tot.bindeq (idx_some hx) (Tot.chk (Int.tmod_nonneg _ h0) (Tot.bindeq (idx_some hx) (Tot.bindeq (p_Clone_page _ (by show (l1 ++ p :: l2).length ≤ _; omega)) (Tot.bindeq (idx_some hi) (Tot.ret ?_)))))
    show api_Disk.mk ((l1 ++ p :: l2).set l1.length _) L b = _
    rw [List.set_append_right _ _ (Nat.le_refl _), Nat.sub_self]
    rfl
theorem rot_no {d : api_Disk} {a bit : Int} (hn : d.Synced.length ≤ 1000) (hd : ∀ p, p ∈ d.Synced → p.Data.length ≤ 1000)
    (h : ∀ l1 p l2, d.Synced = l1 ++ p :: l2 → p.At = a → (∀ x, x ∈ l1 → x.At ≠ a) → ¬ (0 ≤ bit ∧ bit < 8 * (p.Data.length : Int))) : disk_Rot d a bit = some d := by
  refine Tot.eq ?_
  unfold disk_Rot
  have e := p_IndexR d.Synced a (by omega)
  cases hf : d.Synced.findIdx? (fun p => p.At == a) with
  | none =>
    rw [hf] at e
    refine Tot.bindeq e (Tot.bind (R := (· = true)) ?_ fun v hv => by subst hv; exact Tot.cond rfl (Tot.ret rfl))
    exact Tot.bind (R := (· = true)) (Tot.cond (by decide) (Tot.ret rfl)) fun v hv => by subst hv; exact Tot.bind (R := (· = true)) (Tot.cond rfl (Tot.ret rfl)) fun _ h => Tot.ret h
  | some n =>
    obtain ⟨l1, p, l2, eS, hp, hl⟩ := idx_split hf
    have hbad := h l1 p l2 eS hp hl
    have hnn : n = l1.length := by rw [eS, split_idx hp hl] at hf; cases hf; rfl
    subst hnn
    rw [hf] at e
    have hi : d.Synced[l1.length]? = some p := by rw [eS]; simp
    have hdp := hd p (by rw [eS]; simp)
    refine Tot.bindeq e (Tot.bind (R := (· = true)) ?_ fun v hv => by subst hv; exact Tot.cond rfl (Tot.ret rfl))
    refine Tot.bind (R := (· = decide (bit < 0))) (Tot.ncond (by simp) (Tot.ret rfl)) fun v hv => ?_
    subst hv
    refine Tot.bind (R := (· = true)) (Tot.ite (fun _ => Tot.ret rfl) fun hb => Tot.bindeq (idx_some hi) (Tot.chk (by unfold InI64; omega) (Tot.ret ?_))) fun _ h => Tot.ret h
    have hb : ¬ bit < 0 := by simpa using hb
    exact decide_eq_true (by omega)
end Go.Proofs
