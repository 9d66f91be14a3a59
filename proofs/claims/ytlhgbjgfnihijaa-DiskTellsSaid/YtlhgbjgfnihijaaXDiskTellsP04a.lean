/- Disks, plain: pages, writing, reading. No condition. -/
import Derived.Test.YtlhgbjgfnihijaaCatP5
import Derived.Test.YtlhgbjgfnihijaaXDiskTellsTw
namespace Go.Proofs
set_option linter.all false
open Go Go.Cat

theorem p_Clone_page (l : List api_Page) (h : l.length ≤ 1000000) : slices_Clone_api_Page_api_Page l = some l := eq_slices_Clone_api_Page_api_Page l (by omega)
theorem p_bClone (l : List UInt8) (h : l.length ≤ 1000000) : bytes_Clone l = some l := eq_bytes_Clone l (by omega)

theorem p_Concat_page (ll : List (List api_Page)) (h : ll.flatten.length ≤ 1000000) (h2 : ll.length ≤ 1000) : slices_Concat_api_Page_api_Page ll = some ll.flatten := by
  have k1 : ∀ (r : List (List api_Page)) (n a : Nat), ll.drop n = r → n ≤ ll.length → a + r.flatten.length ≤ 1000000 → loop (slices_Concat_api_Page_api_Page_B1 ll) ((a : Int), (n : Int)) = some ((a + r.flatten.length : Nat) : Int) := by
    intro r
    induction r with
    | nil =>
      intro n a hd hn _
      have : n = ll.length := by have := congrArg List.length hd; simp at this; omega
      subst this
      refine loop_inr ?_
      unfold slices_Concat_api_Page_api_Page_B1
      rw [if_neg (by simp)]
      simp [out]
    | cons x r ih =>
      intro n a hd hn ha
      have hlt : n < ll.length := by
        rcases Nat.lt_or_ge n ll.length with h | h
        · exact h
        · rw [List.drop_eq_nil_of_le h] at hd; cases hd
      rw [List.drop_eq_getElem_cons hlt] at hd
      injection hd with hx hr
      have hx' : ll[n]? = some x := by rw [List.getElem?_eq_getElem hlt, hx]
      simp only [List.flatten_cons, List.length_append] at ha
      have e : slices_Concat_api_Page_api_Page_B1 ll ((a : Int), (n : Int)) = some (.inl (((a + x.length : Nat) : Int), ((n + 1 : Nat) : Int))) := by
        refine Tot.eq ?_
        unfold slices_Concat_api_Page_api_Page_B1
        refine Tot.ite (fun _ => Tot.bind (R := (· = ((a + x.length : Nat) : Int))) (Tot.bindeq (idx_some hx') (Tot.chk (by dsimp only; unfold InI64; omega) (Tot.ite (fun hh => absurd hh (by simp; omega)) (fun _ => Tot.ret (by simp))))) (fun v hv => Tot.chk (by dsimp only; unfold InI64; omega) (Tot.ret (by rw [hv]; rfl)))) (fun hh => absurd hh (by simp; omega))
      rw [loop_inl e, ih (n + 1) _ hr hlt (by omega)]
      simp [Nat.add_assoc]
  have k2 : ∀ (r : List (List api_Page)) (n : Nat) (a : List api_Page), ll.drop n = r → n ≤ ll.length → a.length + r.flatten.length ≤ 1000000 → loop (slices_Concat_api_Page_api_Page_B2 ll) ((n : Int), a) = some (a ++ r.flatten) := by
    intro r
    induction r with
    | nil =>
      intro n a hd hn _
      have : n = ll.length := by have := congrArg List.length hd; simp at this; omega
      subst this
      refine loop_inr ?_
      unfold slices_Concat_api_Page_api_Page_B2
      rw [if_neg (by simp)]
      simp [out]
    | cons x r ih =>
      intro n a hd hn ha
      have hlt : n < ll.length := by
        rcases Nat.lt_or_ge n ll.length with h | h
        · exact h
        · rw [List.drop_eq_nil_of_le h] at hd; cases hd
      rw [List.drop_eq_getElem_cons hlt] at hd
      injection hd with hx hr
      have hx' : ll[n]? = some x := by rw [List.getElem?_eq_getElem hlt, hx]
      simp only [List.flatten_cons, List.length_append] at ha
      have e : slices_Concat_api_Page_api_Page_B2 ll ((n : Int), a) = some (.inl (((n + 1 : Nat) : Int), a ++ x)) := by
        refine Tot.eq ?_
        unfold slices_Concat_api_Page_api_Page_B2
        refine Tot.ite (fun _ => Tot.bindeq (idx_some hx') (Tot.chk (by dsimp only; omega) (Tot.chk (by dsimp only; unfold InI64; omega) (Tot.ret rfl)))) (fun hh => absurd hh (by simp; omega))
      rw [loop_inl e, ih (n + 1) _ hr hlt (by simp only [List.length_append]; omega)]
      simp
  refine Tot.eq ?_
  unfold slices_Concat_api_Page_api_Page slices_Concat_api_Page_api_Page_L1 slices_Concat_api_Page_api_Page_L2 slices_Grow_api_Page_api_Page__nil
  have h1 := k1 ll 0 0 rfl (Nat.zero_le _) (by omega)
  refine Tot.bindeq h1 (Tot.bind (R := (· = [])) ?_ fun x hx => ?_)
  · refine Tot.bindeq (a := ()) (if_neg (by simp)) (Tot.bind (R := (· = [])) (Tot.chk (by unfold InI64; omega) (Tot.ite (fun hp => Tot.chk (by omega) (Tot.chk (by simp) (Tot.ret (by simp)))) (fun _ => Tot.ret rfl))) fun a ha => Tot.ret ha)
  · subst hx
    refine Tot.bindeq (k2 ll 0 [] rfl (Nat.zero_le _) (by simp only [List.length_nil]; omega)) (Tot.ret (by simp))

/-! Pages. -/
def mayN (at_ : Int) (n : Nat) : Prop := (0 ≤ at_ ∧ at_ < 1000) ∧ n ≤ 200
instance (a : Int) (n : Nat) : Decidable (mayN a n) := inferInstanceAs (Decidable (_ ∧ _))
theorem p_dmay (a : Int) (d : List UInt8) : Tot (disk_may a d) (Tells (mayN a d.length)) :=
  Tot.bind (Tot.bind (Tot.andI (by simp) fun _ => Tot.dec Iff.rfl) fun _ h1 => Tot.bind (Tot.andI h1 fun _ => Tot.dec (by omega)) fun _ h2 => Tot.ret h2) fun _ h => Tot.ret h

def writeN (d : api_Disk) (a : Int) (x : List UInt8) : api_Disk × Int := if d.Down then (d, 40) else if mayN a x.length then (⟨d.Synced, d.Loose ++ [⟨a, x⟩], d.Down⟩, 0) else (d, 1)
theorem p_Write (d : api_Disk) (a : Int) (x : List UInt8) (hd : d.Loose.length ≤ 1000) (hx : x.length ≤ 100000) : disk_Write d a x = some (writeN d a x) := by
  refine Tot.eq ?_
  unfold disk_Write writeN
  refine Tot.ite (fun h => Tot.ret (by rw [if_pos h])) fun h => ?_
  rw [if_neg h]
  refine Tot.bind (p_dmay a x) fun b hb => Tot.ite (fun hn => Tot.ret ?_) (fun hn => ?_)
  · rw [if_neg (fun hp => by rw [hb.2 hp] at hn; cases hn)]
  · have hp : mayN a x.length := hb.1 (by simpa using hn)
    rw [if_pos hp]
    exact Tot.bindeq (p_Clone_page _ (by omega)) (Tot.bindeq (p_bClone _ (by omega)) (Tot.chk (by simp only [List.length_cons, List.length_nil]; omega) (Tot.ret rfl)))

theorem p_Reverse (l : List api_Page) (h : l.length ≤ 100000) : slices_Reverse_api_Page_api_Page l = some ((), l.reverse) := by
  refine Tot.eq ?_
  unfold slices_Reverse_api_Page_api_Page slices_Reverse_api_Page_api_Page_L1
  refine Tot.chk (by unfold InI64; omega) ?_
  refine Tot.loop (fun s => 0 ≤ s.1 ∧ s.1 + s.2.1 = (l.length : Int) - 1 ∧ s.1 ≤ s.2.1 + 2 ∧ s.2.2.length = l.length ∧ ∀ k : Nat, k < l.length → s.2.2[k]? = if (k : Int) < s.1 ∨ s.2.1 < (k : Int) then l[l.length - 1 - k]? else l[k]?) (fun s => (s.2.1 + 1 - s.1).toNat) ?_ (0, (l.length : Int) - 1, l) ⟨by simp, by simp, by simp; omega, rfl, fun k hk => by rw [if_neg (by simp; omega)]⟩
  rintro ⟨i, j, m⟩ ⟨h0, h1, h2, hm, hk⟩
  unfold slices_Reverse_api_Page_api_Page_B1
  dsimp only at h0 h1 h2 hm hk ⊢
  refine Tot.ite (fun hlt => ?_) (fun hlt => ?_)
  · have hlt : i < j := by simpa using hlt
    refine Tot.bind (Tot.idx (l := m) (i := j) (by omega) (by omega) fun x hx => hx) fun x1 hx1 => ?_
    refine Tot.bind (Tot.idx (l := m) (i := i) (by omega) (by omega) fun x hx => hx) fun x2 hx2 => ?_
    refine Tot.bind (Tot.idx (l := m) (i := i) (by omega) (by omega) fun x hx => trivial) fun _ _ => ?_
    refine Tot.bind (Tot.idx (l := m.set i.toNat x1) (i := j) (by omega) (by simp; omega) fun x hx => trivial) fun _ _ => ?_
    refine Tot.chk (by unfold InI64; omega) (Tot.chk (by unfold InI64; omega) (Tot.inl ⟨⟨by dsimp only; omega, by dsimp only; omega, by dsimp only; omega, by simp [hm], fun k hkl => ?_⟩, by dsimp only; omega⟩))
    dsimp only
    have hi := hk i.toNat (by omega)
    have hj := hk j.toNat (by omega)
    rw [if_neg (by omega)] at hi hj
    rw [List.getElem?_set, List.getElem?_set]
    by_cases hkj : j.toNat = k
    · subst hkj
      rw [if_pos rfl, if_pos (by simp; omega), if_pos (by omega), ← hx2, hi]
      congr 1; omega
    · rw [if_neg hkj]
      by_cases hki : i.toNat = k
      · subst hki
        rw [if_pos rfl, if_pos (by omega), if_pos (by omega), ← hx1, hj]
        congr 1; omega
      · rw [if_neg hki, hk k hkl]
        by_cases hc : (k : Int) < i ∨ j < (k : Int)
        · rw [if_pos hc, if_pos (by omega)]
        · rw [if_neg hc, if_neg (by omega)]
  · have hge : ¬ i < j := by simpa using hlt
    refine Tot.out (Tot.ret ?_)
    congr 1
    refine List.ext_getElem? fun k => ?_
    rcases Nat.lt_or_ge k l.length with hkl | hkl
    · rw [hk k hkl, List.getElem?_reverse hkl]
      by_cases hc : (k : Int) < i ∨ j < (k : Int)
      · rw [if_pos hc]
      · rw [if_neg hc]; congr 1; omega
    · rw [List.getElem?_eq_none (by omega), List.getElem?_eq_none (by simpa using hkl)]

def readN (d : api_Disk) (a : Int) : List UInt8 × Int :=
  if d.Down then ([], 40) else if mayN a 0 then (match (d.Synced ++ d.Loose).reverse.find? (fun p => p.At == a) with | none => ([], 41) | some p => (p.Data, 0)) else ([], 1)
def smallD (d : api_Disk) : Prop := d.Synced.length ≤ 1000 ∧ d.Loose.length ≤ 1000 ∧ ∀ p ∈ d.Synced ++ d.Loose, p.Data.length ≤ 1000

theorem find_idx {α : Type} (l : List α) (p : α → Bool) : (match l.findIdx? p with | some n => (match l[n]? with | some x => some x | none => none) | none => none) = l.find? p := by
  induction l with
  | nil => rfl
  | cons x l ih =>
    rw [List.findIdx?_cons, List.find?_cons]
    cases hp : p x with
    | true => simp
    | false =>
      simp only [Bool.false_eq_true, if_false]
      rw [← ih]
      cases hf : l.findIdx? p with
      | none => simp
      | some n => simp

theorem p_Index (l : List api_Page) (a : Int) (h : l.length ≤ 100000) : disk_find_api_Page__disk_Read_1 l a = some (match l.findIdx? (fun p => p.At == a) with | some n => (n : Int) | none => -1) := by
  unfold disk_find_api_Page__disk_Read_1 slices_IndexFunc_api_Page_api_Page__disk_Read_1 slices_IndexFunc_api_Page_api_Page__disk_Read_1_L1
  have := loop_find (b := l) (B := slices_IndexFunc_api_Page_api_Page__disk_Read_1_B1 l a) (fun p => p.At == a) (fun n _ => (n : Int)) (-1) ?_ ?_
  · rw [this]
    simp only [Option.bind_some]
    congr 1
    cases hf : l.findIdx? (fun p => p.At == a) with
    | none => rfl
    | some n =>
      have := List.findIdx?_eq_some_iff_getElem.1 hf
      obtain ⟨hn, -⟩ := this
      simp [List.getElem?_eq_getElem hn]
  · intro n x hx hn
    cases hc : x.At == a
    · rw [if_neg (by decide)]
      refine Tot.eq ?_
      unfold slices_IndexFunc_api_Page_api_Page__disk_Read_1_B1 disk_Read_1
      exact Tot.ite (fun _ => Tot.bindeq (idx_some hx) (Tot.bindeq rfl (Tot.ite (fun h => by rw [hc] at h; cases h) (fun h => Tot.chk (by unfold InI64; omega) (Tot.ret rfl))))) (fun hh => absurd hh (by simp; omega))
    · rw [if_pos rfl]
      refine Tot.eq ?_
      unfold slices_IndexFunc_api_Page_api_Page__disk_Read_1_B1 disk_Read_1
      exact Tot.ite (fun _ => Tot.bindeq (idx_some hx) (Tot.bindeq rfl (Tot.ite (fun h => ⟨_, rfl, rfl⟩) (fun h => absurd hc h)))) (fun hh => absurd hh (by simp; omega))
  · unfold slices_IndexFunc_api_Page_api_Page__disk_Read_1_B1 slices_IndexFunc_api_Page_api_Page__disk_Read_1_J1
    rw [if_neg (by simp)]; rfl

theorem p_Read (d : api_Disk) (a : Int) (hd : smallD d) : disk_Read d a = some (readN d a) := by
  refine Tot.eq ?_
  obtain ⟨h1, h2, h3⟩ := hd
  unfold disk_Read readN
  refine Tot.ite (fun h => Tot.ret (by rw [if_pos h])) fun h => ?_
  rw [if_neg h]
  refine Tot.bind (p_dmay a []) fun b hb => Tot.ite (fun hn => Tot.ret ?_) (fun hn => ?_)
  · rw [if_neg (fun hp => by rw [hb.2 hp] at hn; cases hn)]
  · have hp : mayN a 0 := hb.1 (by simpa using hn)
    rw [if_pos hp]
    have hf : [d.Synced, d.Loose].flatten = d.Synced ++ d.Loose := by simp
    refine Tot.bindeq (p_Concat_page _ (by rw [hf]; simp; omega) (by simp)) ?_
    rw [hf]
    refine Tot.bindeq (p_Reverse _ (by simp; omega)) ?_
    dsimp only
    refine Tot.bindeq (p_Index _ _ (by simp; omega)) ?_
    have hfi := find_idx (d.Synced ++ d.Loose).reverse (fun p => p.At == a)
    cases hf : (d.Synced ++ d.Loose).reverse.findIdx? (fun p => p.At == a) with
    | none =>
      rw [hf] at hfi
      rw [← hfi]
      exact Tot.ite (fun _ => Tot.ret rfl) (fun hh => absurd rfl hh)
    | some n =>
      rw [hf] at hfi
      obtain ⟨hn, -⟩ := List.findIdx?_eq_some_iff_getElem.1 hf
      have hx := List.getElem?_eq_getElem hn
      dsimp only at hfi ⊢
      rw [hx] at hfi
      rw [← hfi]
      refine Tot.ite (fun hh => absurd hh (by simp)) (fun _ => Tot.bindeq (idx_some hx) (Tot.bindeq (p_bClone _ ?_) (Tot.ret rfl)))
      have := h3 _ (List.mem_reverse.1 (List.getElem_mem hn))
      omega
theorem readN_len {d : api_Disk} (hd : smallD d) (a : Int) : (readN d a).1.length ≤ 1000 := by
  unfold readN
  split
  · simp
  · split
    · split
      · simp
      · rename_i p hp
        exact hd.2.2 p (List.mem_reverse.1 (List.mem_of_find?_eq_some hp))
    · simp

theorem p_RBytes (a b : List UInt8) (h : a.length ≤ 1000000) : Tot (ref04_Bytes a b) (Tells (a = b)) := by
  unfold ref04_Bytes ref04_Bytes_L1
  refine Tot.ite (fun hne => Tot.ret ⟨fun e => (by cases e), fun e => (by subst e; simp at hne)⟩) fun heq => ?_
  have heq : a.length = b.length := by simp at heq; omega
  refine Tot.loop (fun s : Int => 0 ≤ s ∧ s ≤ (a.length : Int) ∧ ∀ j : Nat, j < s.toNat → a[j]? = b[j]?) (fun s => ((a.length : Int) - s).toNat) ?_ 0 ⟨by simp, by simp, fun j hj => by simp at hj⟩
  rintro s ⟨g0, g1, g2⟩
  unfold ref04_Bytes_B1 ref04_Bytes_J1
  refine Tot.ite (fun hlt => ?_) (fun hge => Tot.out (Tot.ret ⟨fun _ => List.ext_getElem? fun j => ?_, fun _ => rfl⟩))
  · have hlt : s < a.length := by simpa using hlt
    refine Tot.bind (Tot.idx g0 hlt (Q := fun y => a[s.toNat]? = some y) fun _ h => h) fun x hx => Tot.bind (Tot.idx g0 (by omega) (Q := fun y => b[s.toNat]? = some y) fun _ h => h) fun y hy => ?_
    refine Tot.ite (fun hn => Tot.out (Tot.ret ⟨fun e => (by cases e), fun e => ?_⟩)) fun he => Tot.chk (by unfold InI64; omega) (Tot.inl ⟨⟨by omega, by omega, fun j hj => ?_⟩, by omega⟩)
    · subst e; rw [hx] at hy; cases hy; simp at hn
    · rcases Nat.lt_or_ge j s.toNat with h | h
      · exact g2 j h
      · have : j = s.toNat := by omega
        subst this
        rw [hx, hy]
        have he : (x.toNat : Int) = (y.toNat : Int) := by simpa using he
        exact congrArg some (UInt8.toNat_inj.1 (by omega))
  · have hge : ¬ s < a.length := by simpa using hge
    rcases Nat.lt_or_ge j s.toNat with h | h
    · exact g2 j h
    · rw [List.getElem?_eq_none (by omega), List.getElem?_eq_none (by omega)]

end Go.Proofs
