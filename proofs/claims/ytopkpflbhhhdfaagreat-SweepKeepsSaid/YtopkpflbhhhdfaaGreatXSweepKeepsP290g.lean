/- Sweeping, plain: sets of numbers, what is kept. No condition. -/
import Derived.Test.YtopkpflbhhhdfaaGreatXSweepKeepsP290f
namespace Go.Proofs
set_option linter.all false
open Go Go.Cat
set_option linter.all false

theorem loop_eachN {α β ρ : Type} {b : List β} {B : Int × α → Option ((Int × α) ⊕ ρ)} (g : α → β → α) (I : Nat → α → Prop) (fin : α → ρ)
    (h1 : ∀ (a : α) (n : Nat) (x : β), I n a → b[n]? = some x → n < b.length → B ((n : Int), a) = some (.inl ((n : Int) + 1, g a x)) ∧ I (n + 1) (g a x))
    (h2 : ∀ a, I b.length a → B ((b.length : Int), a) = some (.inr (fin a))) : ∀ a, I 0 a → loop B (0, a) = some (fin (b.foldl g a)) ∧ I b.length (b.foldl g a) := by
  have key : ∀ (l : List β) (n : Nat) (a : α), b.drop n = l → n ≤ b.length → I n a → loop B ((n : Int), a) = some (fin (l.foldl g a)) ∧ I b.length (l.foldl g a) := by
    intro l
    induction l with
    | nil =>
      intro n a hd hn ha
      have : n = b.length := by have := congrArg List.length hd; simp at this; omega
      subst this
      exact ⟨loop_inr (h2 a ha), ha⟩
    | cons x l ih =>
      intro n a hd hn ha
      have hlt : n < b.length := by
        rcases Nat.lt_or_ge n b.length with h | h
        · exact h
        · rw [List.drop_eq_nil_of_le h] at hd; cases hd
      rw [List.drop_eq_getElem_cons hlt] at hd
      injection hd with hx hl
      obtain ⟨e, hi⟩ := h1 a n x ha (by rw [List.getElem?_eq_getElem hlt, hx]) hlt
      rw [loop_inl e]
      exact ih (n + 1) (g a x) hl hlt hi
  exact fun a ha => key b 0 a rfl (Nat.zero_le _) ha
/-! Sets of numbers. -/
def setM (ids : List Int) (m : List (Int × Bool)) : List (Int × Bool) := ids.foldl (fun m i => mset i true m) m
theorem setM_len : ∀ (ids : List Int) (m : List (Int × Bool)), (setM ids m).length ≤ m.length + ids.length
  | [], m => by simp [setM]
  | i :: ids, m => by
    have h := setM_len ids (mset i true m)
    have h2 := mset_len i true m
    show (setM ids (mset i true m)).length ≤ _
    simp only [List.length_cons]; omega
theorem mget_setM (k : Int) : ∀ (ids : List Int) (m : List (Int × Bool)), mget k (setM ids m) = if k ∈ ids then some true else mget k m
  | [], m => by simp [setM]
  | i :: ids, m => by
    show mget k (setM ids (mset i true m)) = _
    rw [mget_setM k ids, mget_mset]
    by_cases h1 : k ∈ ids
    · simp [h1]
    · by_cases h2 : i = k
      · simp [h2]
      · have : ¬ k = i := fun e => h2 e.symm
        simp [h1, h2, this]
theorem setM_app (a b : List Int) (m : List (Int × Bool)) : setM (a ++ b) m = setM b (setM a m) := List.foldl_append
theorem has_setM (k : Int) (ids : List Int) : (mget k (setM ids [])).getD false = decide (k ∈ ids) := by
  rw [mget_setM]
  by_cases h : k ∈ ids
  · simp [h]
  · simp [h, mget]
def sortU (ids : List Int) : List Int := keysI (setM ids [])
theorem mem_sortU {x : Int} {ids : List Int} : x ∈ sortU ids ↔ x ∈ ids := by
  unfold sortU
  have hk : x ∈ keysI (setM ids []) ↔ x ∈ (setM ids []).map (·.1) := List.mem_mergeSort
  rw [hk]
  have e := mget_setM x ids []
  constructor
  · intro h
    obtain ⟨v, hv⟩ := mem_mget h
    rw [hv] at e
    by_cases hx : x ∈ ids
    · exact hx
    · rw [if_neg hx] at e; simp [mget] at e
  · intro h
    rw [if_pos h] at e
    exact mget_mem e
theorem sortU_len (ids : List Int) : (sortU ids).length ≤ ids.length := by
  unfold sortU keysI
  rw [List.length_mergeSort, List.length_map]
  simpa using setM_len ids []
theorem not_before {l : List Int} (h : l.Pairwise (· < ·)) {n : Nat} {x : Int} (hx : l[n]? = some x) : x ∉ l.take n := by
  intro hm
  obtain ⟨hn, hx⟩ := List.getElem?_eq_some_iff.1 hx
  rw [← List.take_append_drop n l, List.pairwise_append] at h
  have := h.2.2 x hm x (by rw [List.drop_eq_getElem_cons hn, hx]; exact List.mem_cons_self ..)
  omega
theorem take_next {β : Type} {b : List β} {n : Nat} {x : β} (h : b[n]? = some x) : b.take (n + 1) = b.take n ++ [x] := by
  rw [List.take_add_one, h]; rfl

/-! Which rooms are open. -/
def openB (leases : List api_Lease) (now : Int) (r : api_Room) : Bool := leases.any fun l => l.Client == r.Client && (l.Ino == r.Ino && (l.Kind == 2 && decide (l.Until > now)))
theorem p_lease (l : api_Lease) (now : Int) (r : api_Room) : sweep_open_1_1_3 l now r = some (l.Client == r.Client && (l.Ino == r.Ino && (l.Kind == 2 && decide (l.Until > now)))) := by
  unfold sweep_open_1_1_3
  cases (l.Client == r.Client) <;> cases (l.Ino == r.Ino) <;> cases (l.Kind == 2) <;> rfl
theorem p_open (leases : List api_Lease) (now : Int) (r : api_Room) (h : leases.length ≤ 100000) : sweep_open_1 r leases now = some (openB leases now r) := by
  unfold sweep_open_1 slices_ContainsFunc_api_Lease_api_Lease__sweep_open_1_1_2 slices_IndexFunc_api_Lease_api_Lease__sweep_open_1_1_3 slices_IndexFunc_api_Lease_api_Lease__sweep_open_1_1_3_L1
  have := loop_find (b := leases) (B := slices_IndexFunc_api_Lease_api_Lease__sweep_open_1_1_3_B1 leases now r) (fun l => l.Client == r.Client && (l.Ino == r.Ino && (l.Kind == 2 && decide (l.Until > now)))) (fun n _ => (n : Int)) (-1) ?_ ?_
  · rw [this]
    simp only [Option.bind_some]
    refine congrArg some ?_
    unfold openB
    rw [← List.findIdx?_isSome]
    cases hf : leases.findIdx? (fun l => l.Client == r.Client && (l.Ino == r.Ino && (l.Kind == 2 && decide (l.Until > now)))) with
    | none => rfl
    | some n =>
      obtain ⟨hn, -⟩ := List.findIdx?_eq_some_iff_getElem.1 hf
      simp [List.getElem?_eq_getElem hn]
  · intro n x hx hn
    split
    · rename_i h
      refine Tot.eq ?_
      unfold slices_IndexFunc_api_Lease_api_Lease__sweep_open_1_1_3_B1
      exact Tot.cond (by simp; omega) (Tot.bindeq (idx_some hx) (Tot.bindeq (p_lease x now r) (Tot.cond h ⟨_, rfl, rfl⟩)))
    · rename_i h
      refine Tot.eq ?_
      unfold slices_IndexFunc_api_Lease_api_Lease__sweep_open_1_1_3_B1
      exact Tot.cond (by simp; omega) (Tot.bindeq (idx_some hx) (Tot.bindeq (p_lease x now r) (Tot.ncond h (Tot.chk (by unfold InI64; omega) (Tot.ret rfl)))))
  · unfold slices_IndexFunc_api_Lease_api_Lease__sweep_open_1_1_3_B1 slices_IndexFunc_api_Lease_api_Lease__sweep_open_1_1_3_J1
    rw [if_neg (by simp)]; rfl

/-! What is kept. -/
def keepIds (named : List api_Named) (rooms : List api_Room) (leases : List api_Lease) (now : Int) : List Int := named.map (·.Id) ++ (rooms.filter (openB leases now)).map (·.Id)
theorem p_kept {named : List api_Named} {rooms : List api_Room} {leases : List api_Lease} {now : Int} (hn : named.length ≤ 1000) (hr : rooms.length ≤ 1000) (hl : leases.length ≤ 1000) (okn : ∀ n, n ∈ named → InI64 n.Id) (okr : ∀ r, r ∈ rooms → InI64 r.Id) :
    sweep_kept__sweep_open_1 named rooms leases now = some (setM (keepIds named rooms leases now) []) := by
  unfold sweep_kept__sweep_open_1 sweep_kept__sweep_open_1_L1 sweep_kept__sweep_open_1_L2
  have h1 := loop_eachN (b := named) (B := sweep_kept__sweep_open_1_B1 named) (fun m x => mset x.Id true m) (fun n m => m.length ≤ n) id (fun m n x hm hx hlt => ⟨by
    refine Tot.eq ?_
    unfold sweep_kept__sweep_open_1_B1
    exact Tot.cond (by simp; omega) (Tot.bindeq (idx_some hx) (Tot.chk ⟨okn x (List.mem_of_getElem? hx), by dsimp only; omega⟩ (Tot.chk (by unfold InI64; dsimp only; omega) (Tot.ret rfl)))), by have := mset_len x.Id true m; omega⟩) (fun m hm => by
    unfold sweep_kept__sweep_open_1_B1
    rw [if_neg (by simp)]; rfl) [] (Nat.le_refl _)
  have e1 : loop (sweep_kept__sweep_open_1_B1 named) (0, []) = some (named.foldl (fun m x => mset x.Id true m) []) := h1.1
  rw [e1]
  have h2 := loop_eachN (b := rooms) (B := sweep_kept__sweep_open_1_B2 rooms leases now) (fun m x => if openB leases now x then mset x.Id true m else m) (fun n m => m.length ≤ 1000 + n) id (fun m n x hm hx hlt => ⟨by
    refine Tot.eq ?_
    unfold sweep_kept__sweep_open_1_B2
    refine Tot.cond (by simp; omega) (Tot.bind (R := (· = if openB leases now x then mset x.Id true m else m)) (Tot.bindeq (idx_some hx) (Tot.bindeq (p_open leases now x (by omega)) (Tot.ite (fun h => ?_) fun h => ?_))) fun v hv => Tot.chk (by unfold InI64; dsimp only; omega) (Tot.ret (by rw [hv])))
    · rw [if_pos h]; exact Tot.chk ⟨okr x (List.mem_of_getElem? hx), by dsimp only; omega⟩ (Tot.ret rfl)
    · rw [if_neg h]; exact Tot.ret rfl, by have := mset_len x.Id true m; split <;> omega⟩) (fun m hm => by
    unfold sweep_kept__sweep_open_1_B2
    rw [if_neg (by simp)]; rfl) _ (Nat.le_trans h1.2 (by omega))
  rw [Option.bind_some, h2.1, Option.bind_some]
  unfold keepIds
  rw [setM_app]
  unfold setM
  rw [List.foldl_map, List.foldl_map, List.foldl_filter]; rfl
end Go.Proofs
