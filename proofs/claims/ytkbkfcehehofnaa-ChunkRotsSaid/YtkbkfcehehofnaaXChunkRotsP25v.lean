/- Chunks, plain: pages laid over others, a bit turned. No condition. -/
import Derived.Test.YtkbkfcehehofnaaXChunkRotsP25j
import Derived.Test.YtkbkfcehehofnaaCat5
namespace Go.Proofs
set_option linter.all false
open Go Go.Cat

def goodP (p : api_Page) : Prop := (0 ≤ p.At ∧ p.At < 1000) ∧ p.Data.length ≤ 200
def lastAt (l : List api_Page) (a : Int) : Option api_Page := l.reverse.find? (fun p => p.At == a)
def byM (m : List (Int × api_Page)) (l : List api_Page) : List (Int × api_Page) := l.foldl (fun m p => mset p.At p m) m
def laidN (l o : List api_Page) : List api_Page := (keysI (byM [] (l ++ o))).map fun k => (mget k (byM [] (l ++ o))).getD (⟨0, []⟩ : api_Page)

theorem mget_mset {α : Type} (k n : Int) (v : α) : ∀ m : List (Int × α), mget k (mset n v m) = if n = k then some v else mget k m
  | [] => by simp only [mset, mget]
  | (j, c) :: r => by
    unfold mset
    by_cases hj : j = n
    · rw [if_pos hj]; subst hj; simp only [mget]; split <;> rfl
    · rw [if_neg hj]
      simp only [mget]
      rw [mget_mset k n v r]
      by_cases hk : j = k
      · rw [if_pos hk, if_pos hk, if_neg (fun e => hj (hk.trans e.symm))]
      · rw [if_neg hk, if_neg hk]
theorem mset_len {α : Type} (n : Int) (v : α) : ∀ m : List (Int × α), (mset n v m).length ≤ m.length + 1
  | [] => by simp [mset]
  | (j, c) :: r => by
    unfold mset
    split
    · simp
    · have := mset_len n v r; simp only [List.length_cons]; omega
theorem mget_mem {α : Type} {k : Int} {v : α} : ∀ {m : List (Int × α)}, mget k m = some v → k ∈ m.map (·.1)
  | [], h => by simp [mget] at h
  | (j, c) :: r, h => by
    unfold mget at h
    split at h
    · rename_i hj; simp [hj]
    · simp only [List.map_cons, List.mem_cons]; exact .inr (mget_mem h)
theorem mem_mget {α : Type} {k : Int} : ∀ {m : List (Int × α)}, k ∈ m.map (·.1) → ∃ v, mget k m = some v
  | [], h => by simp at h
  | (j, c) :: r, h => by
    unfold mget
    by_cases hj : j = k
    · exact ⟨c, if_pos hj⟩
    · rw [if_neg hj]
      simp only [List.map_cons, List.mem_cons] at h
      rcases h with h | h
      · exact absurd h.symm hj
      · exact mem_mget h
theorem mget_by (k : Int) : ∀ (l : List api_Page) (m : List (Int × api_Page)), mget k (byM m l) = (lastAt l k).or (mget k m)
  | [], m => by simp [byM, lastAt]
  | p :: l, m => by
    have h := mget_by k l (mset p.At p m)
    show mget k (byM (mset p.At p m) l) = _
    rw [h, mget_mset]
    unfold lastAt
    rw [List.reverse_cons, List.find?_append]
    by_cases hp : p.At = k
    · simp [hp]
    · simp [hp]
theorem by_len : ∀ (l : List api_Page) (m : List (Int × api_Page)), (byM m l).length ≤ m.length + l.length
  | [], m => by simp [byM]
  | p :: l, m => by
    have h := by_len l (mset p.At p m)
    have h2 := mset_len p.At p m
    show (byM (mset p.At p m) l).length ≤ _
    simp only [List.length_cons]; omega
theorem last_at {l : List api_Page} {a : Int} {p : api_Page} (h : lastAt l a = some p) : p.At = a ∧ p ∈ l := by
  unfold lastAt at h
  exact ⟨by simpa using List.find?_some h, List.mem_reverse.1 (List.mem_of_find?_eq_some h)⟩
theorem mget_by0 (k : Int) (l : List api_Page) : mget k (byM [] l) = lastAt l k := by
  rw [mget_by]; simp [mget]
theorem mem_keys {k : Int} {m : List (Int × api_Page)} : k ∈ keysI m ↔ k ∈ m.map (·.1) := List.mem_mergeSort
theorem mem_laid {l o : List api_Page} {p : api_Page} (h : p ∈ laidN l o) : lastAt (l ++ o) p.At = some p := by
  unfold laidN at h
  obtain ⟨k, hk, rfl⟩ := List.mem_map.1 h
  obtain ⟨v, hv⟩ := mem_mget (mem_keys.1 hk)
  rw [hv]
  rw [mget_by0] at hv
  show lastAt _ v.At = some v
  rw [(last_at hv).1]; exact hv
theorem laid_len (l o : List api_Page) : (laidN l o).length ≤ l.length + o.length := by
  unfold laidN keysI
  rw [List.length_map, List.length_mergeSort, List.length_map]
  have := by_len (l ++ o) []
  simpa using this
theorem last_laid (l o : List api_Page) (a : Int) : lastAt (laidN l o) a = lastAt (l ++ o) a := by
  cases h : lastAt (l ++ o) a with
  | none =>
    unfold lastAt
    rw [List.find?_eq_none]
    intro p hp hpa
    have := mem_laid (List.mem_reverse.1 hp)
    have e : p.At = a := by simpa using hpa
    rw [e, h] at this; cases this
  | some p =>
    have hm : p ∈ laidN l o := by
      unfold laidN
      refine List.mem_map.2 ⟨a, mem_keys.2 (mget_mem (v := p) (by rw [mget_by0]; exact h)), ?_⟩
      rw [mget_by0, h]; rfl
    have hs : (lastAt (laidN l o) a).isSome := by
      unfold lastAt
      rw [List.find?_isSome]
      exact ⟨p, List.mem_reverse.2 hm, by simpa using (last_at h).1⟩
    obtain ⟨q, hq⟩ := Option.isSome_iff_exists.1 hs
    have h1 := mem_laid (last_at hq).2
    rw [(last_at hq).1, h] at h1
    rw [hq, h1]
theorem laid_good {l o : List api_Page} (h : ∀ p, p ∈ l ++ o → goodP p) : ∀ p, p ∈ laidN l o → goodP p := fun p hp => h p (last_at (mem_laid hp)).2

theorem p_laid (l o : List api_Page) (h : l.length + o.length ≤ 100000) (hg : ∀ p, p ∈ l ++ o → InI64 p.At) : disk_laid l o = some (laidN l o) := by
  have k1 : ∀ (r : List api_Page) (n : Nat) (m : List (Int × api_Page)), (l ++ o).drop n = r → n ≤ (l ++ o).length → m.length ≤ n → loop (disk_laid_B1 (l ++ o)) ((n : Int), m) = some (byM m r) := by
    have hl : (l ++ o).length ≤ 100000 := by simpa using h
    intro r
    induction r with
    | nil =>
      intro n m hd hn _
      have : n = (l ++ o).length := by have := congrArg List.length hd; simp only [List.length_drop, List.length_nil] at this; omega
      subst this
      refine loop_inr ?_
      unfold disk_laid_B1
      rw [if_neg (by simp)]
      simp [out, byM]
    | cons x r ih =>
      intro n m hd hn hm
      have hlt : n < (l ++ o).length := by
        rcases Nat.lt_or_ge n (l ++ o).length with h | h
        · exact h
        · rw [List.drop_eq_nil_of_le h] at hd; cases hd
      rw [List.drop_eq_getElem_cons hlt] at hd
      injection hd with hx hr
      have hx' : (l ++ o)[n]? = some x := by rw [List.getElem?_eq_getElem hlt, hx]
      have e : disk_laid_B1 (l ++ o) ((n : Int), m) = some (.inl (((n + 1 : Nat) : Int), mset x.At x m)) := by
        refine Tot.eq ?_
        unfold disk_laid_B1
        refine Tot.ite (fun _ => Tot.bindeq (idx_some hx') (Tot.chk ⟨hg x (List.mem_of_getElem? hx'), by dsimp only; omega⟩ (Tot.chk (by dsimp only; unfold InI64; omega) (Tot.ret rfl)))) (fun hh => absurd hh (by simp only [decide_eq_true_eq]; omega))
      rw [loop_inl e, ih (n + 1) _ hr hlt (by have := mset_len x.At x m; omega)]
      rfl
  have k2 : ∀ (ks : List Int) (m : List (Int × api_Page)) (r : List Int) (n : Nat) (a : List api_Page), ks.drop n = r → n ≤ ks.length → a.length + r.length ≤ 1000000 → ks.length ≤ 1000000 → loop (disk_laid_B2 ks m) ((n : Int), a) = some (a ++ r.map fun k => (mget k m).getD (⟨0, []⟩ : api_Page)) := by
    intro ks m r
    induction r with
    | nil =>
      intro n a hd hn _ _
      have : n = ks.length := by have := congrArg List.length hd; simp only [List.length_drop, List.length_nil] at this; omega
      subst this
      refine loop_inr ?_
      unfold disk_laid_B2
      rw [if_neg (by simp)]
      simp [out]
    | cons x r ih =>
      intro n a hd hn ha hks
      have hlt : n < ks.length := by
        rcases Nat.lt_or_ge n ks.length with h | h
        · exact h
        · rw [List.drop_eq_nil_of_le h] at hd; cases hd
      rw [List.drop_eq_getElem_cons hlt] at hd
      injection hd with hx hr
      have hx' : ks[n]? = some x := by rw [List.getElem?_eq_getElem hlt, hx]
      simp only [List.length_cons] at ha
      have e : disk_laid_B2 ks m ((n : Int), a) = some (.inl (((n + 1 : Nat) : Int), a ++ [(mget x m).getD (⟨0, []⟩ : api_Page)])) := by
        refine Tot.eq ?_
        unfold disk_laid_B2
        refine Tot.ite (fun _ => Tot.bindeq (idx_some hx') (Tot.bindeq rfl (Tot.chk (by dsimp only; simp only [List.length_cons, List.length_nil]; omega) (Tot.chk (by dsimp only; unfold InI64; omega) (Tot.ret rfl))))) (fun hh => absurd hh (by simp only [decide_eq_true_eq]; omega))
      rw [loop_inl e, ih (n + 1) _ hr hlt (by simp only [List.length_append, List.length_cons, List.length_nil]; omega) hks]
      simp
  have hl : (l ++ o).length ≤ 100000 := by simpa using h
  have hb := by_len (l ++ o) []
  simp only [List.length_nil] at hb
  have hk : (keysI (byM [] (l ++ o))).length = (byM [] (l ++ o)).length := by unfold keysI; rw [List.length_mergeSort, List.length_map]
  refine Tot.eq ?_
  unfold disk_laid disk_laid_L1 disk_laid_L2
  have hc : slices_Concat_api_Page_api_Page [l, o] = some (l ++ o) := by
    rw [p_Concat_page [l, o] (by simp; omega) (by simp)]; simp
  refine Tot.bind (R := (· = byM [] (l ++ o))) (Tot.bindeq hc (Tot.of (k1 (l ++ o) 0 [] rfl (Nat.zero_le _) (Nat.le_refl _)))) fun v hv => ?_
  subst hv
  refine Tot.bind (R := (· = laidN l o)) (Tot.chk (by omega) (Tot.bindeq rfl (Tot.of ?_))) fun v hv => Tot.ret hv
  rw [show ((0 : Int), ([] : List api_Page)) = (((0 : Nat) : Int), []) from rfl, k2 (keysI (byM [] (l ++ o))) _ _ 0 [] rfl (Nat.zero_le _) (by simp only [List.length_nil, List.drop_zero]; omega) (by omega)]
  rfl

theorem laid_all {l o : List api_Page} {R : api_Page → Prop} (h : ∀ p, p ∈ l ++ o → R p) : ∀ p, p ∈ laidN l o → R p := fun p hp => h p (last_at (mem_laid hp)).2
theorem readN_last {d e : api_Disk} (a : Int) (hd : d.Down = false) (he : e.Down = false) (h : lastAt (d.Synced ++ d.Loose) a = lastAt (e.Synced ++ e.Loose) a) : readN d a = readN e a := by
  unfold readN
  unfold lastAt at h
  rw [hd, he, h]
theorem there_congr {d e : api_Disk} {a : Int} (h : readN d a = readN e a) : thereN d a = thereN e a := by
  unfold thereN; rw [h]
theorem there_laid (S L : List api_Page) (a : Int) : thereN ⟨laidN S L, [], false⟩ a = thereN ⟨S, L, false⟩ a := there_congr (readN_last a rfl rfl (by
  show lastAt (laidN S L ++ []) a = lastAt (S ++ L) a
  rw [List.append_nil, last_laid]))
theorem mod_bit {b : Bool} {x : Int} (hb : b = false) (hx : x = 0) : Tot (if b = true then some true else some (x != 0)) (· = false) := by
  subst hb hx; exact ⟨_, rfl, rfl⟩

structure OkD (d : api_Disk) (n : Nat) : Prop where
  s : d.Synced.length ≤ n
  l : d.Loose.length ≤ n
  x : ∀ p, p ∈ d.Synced ++ d.Loose → p.Data.length ≤ 1000 ∧ InI64 p.At
theorem OkD.small {d : api_Disk} (h : OkD d 500) : smallD d := ⟨by have := h.s; omega, by have := h.l; omega, fun p hp => (h.x p hp).1⟩
theorem OkD.mono {d : api_Disk} {n m : Nat} (h : OkD d n) (e : n ≤ m) : OkD d m := ⟨by have := h.s; omega, by have := h.l; omega, h.x⟩
theorem OkD.laid {S L : List api_Page} {b c : Bool} {n : Nat} (h : OkD ⟨S, L, b⟩ n) : OkD ⟨laidN S L, [], c⟩ (n + n) :=
  ⟨Nat.le_trans (laid_len _ _) (by have := h.s; have := h.l; dsimp only at *; omega), Nat.zero_le _, fun p hp => laid_all h.x p (by simpa using hp)⟩
theorem OkD.add {S L : List api_Page} {b : Bool} {n : Nat} {p : api_Page} (h : OkD ⟨S, L, b⟩ n) (hp : p.Data.length ≤ 1000 ∧ InI64 p.At) : OkD ⟨S, L ++ [p], b⟩ (n + 1) :=
  ⟨by have := h.s; dsimp only at *; omega, by have := h.l; dsimp only at *; simp only [List.length_append, List.length_cons, List.length_nil]; omega, fun q hq => by
    simp only [List.mem_append, List.mem_singleton] at hq
    rcases hq with hq | hq | hq
    · exact h.x q (List.mem_append_left _ hq)
    · exact h.x q (List.mem_append_right _ hq)
    · rw [hq]; exact hp⟩
theorem OkD.up {S L : List api_Page} {b c : Bool} {n : Nat} (h : OkD ⟨S, L, b⟩ n) : OkD ⟨S, L, c⟩ n := ⟨h.s, h.l, h.x⟩
theorem OkD.take {S L : List api_Page} {b : Bool} {n : Nat} (k : Nat) (h : OkD ⟨S, L, b⟩ n) : OkD ⟨S, L.take k, b⟩ n :=
  ⟨h.s, by have := h.l; dsimp only at *; simp only [List.length_take]; omega, fun q hq => h.x q (by
    rcases List.mem_append.1 hq with e | e
    · exact List.mem_append_left _ e
    · exact List.mem_append_right _ (List.mem_of_mem_take e))⟩
theorem p_SyncD {S L : List api_Page} (h : OkD ⟨S, L, false⟩ 500) : disk_Sync ⟨S, L, false⟩ = some (⟨laidN S L, [], false⟩, 0) := by
  unfold disk_Sync
  rw [if_neg Bool.false_ne_true, p_laid S L (by have := h.s; have := h.l; dsimp only at *; omega) (fun p hp => (h.x p hp).2)]; rfl
theorem p_CrashD {S L : List api_Page} (k : Int) (h : OkD ⟨S, L, false⟩ 500) : disk_Crash ⟨S, L, false⟩ k = some ⟨laidN S (L.take (min (max k 0) (L.length : Int)).toNat), [], true⟩ := by
  unfold disk_Crash
  have h2 := h.take (min (max k 0) (L.length : Int)).toNat
  rw [chk_pos (by dsimp only; omega), p_laid S _ (by have := h2.s; have := h2.l; dsimp only at *; omega) (fun p hp => (h2.x p hp).2)]; rfl
theorem page_ne (c : api_Copy) : pageN c ≠ [] := fun e => by have := congrArg List.length e; simp [pageN, tailN] at this
theorem put_up {S L : List api_Page} {c : api_Copy} (hc : mayP c) (hpl : (pageN c).length ≤ 200) : putN ⟨S, L, false⟩ c = (⟨S, L ++ [⟨c.Id, pageN c⟩], false⟩, 0) := by
  unfold putN writeN
  have hw := hc.1
  rw [if_pos hc, if_neg Bool.false_ne_true, if_pos ⟨⟨hw.1, by omega⟩, hpl⟩]
theorem there_put {S L : List api_Page} {c : api_Copy} (hc : mayP c) : thereN ⟨S, L ++ [⟨c.Id, pageN c⟩], false⟩ c.Id = (pageN c, 0) := by
  have hw : withinP c.Id := hc.1
  have hw2 := hc.1
  unfold thereN
  rw [if_pos hw, read_add_same Bool.false_ne_true ⟨⟨hw2.1, by omega⟩, Nat.zero_le _⟩, if_neg (fun h => page_ne c h.2)]
theorem okD_of {d : api_Disk} (hm : modest d) (h : ok_api_Disk d) : OkD d 60 := ⟨hm.1, hm.2.1, fun p hp => ⟨by have := hm.2.2 p hp; omega, by
  rcases List.mem_append.1 hp with e | e
  · exact (h.1.2 p e).1
  · exact (h.2.1.2 p e).1⟩⟩
theorem page_ok {c : api_Copy} (hc : mayP c) (hpl : (pageN c).length ≤ 200) : ((⟨c.Id, pageN c⟩ : api_Page).Data.length ≤ 1000) ∧ InI64 (⟨c.Id, pageN c⟩ : api_Page).At := ⟨by show (pageN c).length ≤ 1000; omega, by have := hc.1; unfold InI64; dsimp only; omega⟩


theorem mset_new {α : Type} (n : Int) (v : α) : ∀ m : List (Int × α), n ∉ m.map (·.1) → mset n v m = m ++ [(n, v)]
  | [], _ => rfl
  | (j, c) :: r, h => by
    simp only [List.map_cons, List.mem_cons, not_or] at h
    unfold mset
    rw [if_neg (fun e => h.1 e.symm), mset_new n v r h.2]; rfl
theorem mset_keys {α : Type} (n : Int) (v : α) : ∀ m : List (Int × α), n ∈ m.map (·.1) → (mset n v m).map (·.1) = m.map (·.1)
  | [], h => by simp at h
  | (j, c) :: r, h => by
    unfold mset
    by_cases e : j = n
    · rw [if_pos e]; rfl
    · rw [if_neg e]
      simp only [List.map_cons, List.mem_cons] at h ⊢
      rw [mset_keys n v r (h.resolve_left fun q => e q.symm)]
theorem mset_nodup {α : Type} (n : Int) (v : α) (m : List (Int × α)) (h : (m.map (·.1)).Nodup) : ((mset n v m).map (·.1)).Nodup := by
  by_cases e : n ∈ m.map (·.1)
  · rw [mset_keys n v m e]; exact h
  · rw [mset_new n v m e, List.map_append]
    refine List.nodup_append.2 ⟨h, by simp, fun a ha b hb => ?_⟩
    have hb : b = n := by simpa using hb
    intro hab; rw [hab, hb] at ha; exact e ha
theorem by_nodup : ∀ (l : List api_Page) (m : List (Int × api_Page)), (m.map (·.1)).Nodup → ((byM m l).map (·.1)).Nodup
  | [], _, h => h
  | p :: l, m, h => by_nodup l (mset p.At p m) (mset_nodup p.At p m h)
theorem by_new : ∀ (l : List api_Page) (m : List (Int × api_Page)), (m.map (·.1) ++ l.map (·.At)).Nodup → byM m l = m ++ l.map fun p => (p.At, p)
  | [], m, _ => by simp [byM]
  | p :: l, m, h => by
    show byM (mset p.At p m) l = _
    have hn : p.At ∉ m.map (·.1) := fun hm => (List.nodup_append.1 h).2.2 _ hm _ (by simp) rfl
    rw [mset_new p.At p m hn, by_new l _ (by simpa using h)]
    simp
/-- Pages in order of their places. -/
def Asc (l : List api_Page) : Prop := l.Pairwise fun a b => a.At < b.At
theorem keys_asc (m : List (Int × api_Page)) (h : (m.map (·.1)).Nodup) : (keysI m).Pairwise (· < ·) := by
  have h1 : (keysI m).Pairwise (fun a b => decide (a ≤ b) = true) := List.pairwise_mergeSort (fun a b c h1 h2 => by simp at h1 h2 ⊢; omega) (fun a b => by simp; omega) _
  have h2 : (keysI m).Nodup := (List.mergeSort_perm _ _).nodup_iff.2 h
  exact (h1.and h2).imp fun ⟨x, y⟩ => by simp at x; omega
theorem laid_asc (l o : List api_Page) : Asc (laidN l o) := by
  unfold Asc laidN
  rw [List.pairwise_map]
  refine (List.pairwise_iff_forall_sublist.2 fun {a b} hs => ?_)
  have hk := List.pairwise_iff_forall_sublist.1 (keys_asc _ (by_nodup (l ++ o) [] (by simp))) hs
  have at_ : ∀ k, k ∈ keysI (byM [] (l ++ o)) → ((mget k (byM [] (l ++ o))).getD (⟨0, []⟩ : api_Page)).At = k := fun k hk => by
    obtain ⟨v, hv⟩ := mem_mget (mem_keys.1 hk)
    rw [hv]
    rw [mget_by0] at hv
    exact (last_at hv).1
  rw [at_ a (hs.subset (by simp)), at_ b (hs.subset (by simp))]
  exact hk
theorem p_IndexR (l : List api_Page) (a : Int) (h : l.length ≤ 100000) : disk_find_api_Page__disk_Rot_1 l a = some (match l.findIdx? (fun p => p.At == a) with | some n => (n : Int) | none => -1) := by
  unfold disk_find_api_Page__disk_Rot_1 slices_IndexFunc_api_Page_api_Page__disk_Rot_1 slices_IndexFunc_api_Page_api_Page__disk_Rot_1_L1
  have := loop_find (b := l) (B := slices_IndexFunc_api_Page_api_Page__disk_Rot_1_B1 l a) (fun p => p.At == a) (fun n _ => (n : Int)) (-1) ?_ ?_
  · rw [this]
    simp only [Option.bind_some]
    congr 1
    cases hf : l.findIdx? (fun p => p.At == a) with
    | none => rfl
    | some n =>
      have := List.findIdx?_eq_some_iff_getElem.1 hf
      obtain ⟨hn, -⟩ := this
      simp [List.getElem?_eq_getElem hn]
  · intro n x hx hn
    cases hc : x.At == a
    · rw [if_neg (by decide)]
      refine Tot.eq ?_
      unfold slices_IndexFunc_api_Page_api_Page__disk_Rot_1_B1 disk_Rot_1
      exact Tot.ite (fun _ => Tot.bindeq (idx_some hx) (Tot.bindeq rfl (Tot.ite (fun h => by rw [hc] at h; cases h) (fun h => Tot.chk (by unfold InI64; omega) (Tot.ret rfl))))) (fun hh => absurd hh (by simp; omega))
    · rw [if_pos rfl]
      refine Tot.eq ?_
      unfold slices_IndexFunc_api_Page_api_Page__disk_Rot_1_B1 disk_Rot_1
      exact Tot.ite (fun _ => Tot.bindeq (idx_some hx) (Tot.bindeq rfl (Tot.ite (fun h => ⟨_, rfl, rfl⟩) (fun h => absurd hc h)))) (fun hh => absurd hh (by simp; omega))
  · unfold slices_IndexFunc_api_Page_api_Page__disk_Rot_1_B1 slices_IndexFunc_api_Page_api_Page__disk_Rot_1_J1
    rw [if_neg (by simp)]; rfl

theorem idx_split {a : Int} : ∀ {S : List api_Page} {n : Nat}, S.findIdx? (fun p => p.At == a) = some n → ∃ l1 p l2, S = l1 ++ p :: l2 ∧ p.At = a ∧ ∀ x, x ∈ l1 → x.At ≠ a
  | [], n, h => by simp at h
  | q :: S, n, h => by
    rw [List.findIdx?_cons] at h
    split at h
    · rename_i hq
      exact ⟨[], q, S, rfl, by simpa using hq, fun x hx => by cases hx⟩
    · rename_i hq
      cases hs : S.findIdx? (fun p => p.At == a) with
      | none => rw [hs] at h; cases h
      | some m =>
        obtain ⟨l1, p, l2, e, hp, hl⟩ := idx_split hs
        refine ⟨q :: l1, p, l2, by rw [e]; rfl, hp, fun x hx => ?_⟩
        rcases List.mem_cons.1 hx with e | hx
        · rw [e]; simpa using hq
        · exact hl x hx
theorem split_idx {a : Int} {p : api_Page} {l2 : List api_Page} (hp : p.At = a) : ∀ {l1 : List api_Page}, (∀ x, x ∈ l1 → x.At ≠ a) → (l1 ++ p :: l2).findIdx? (fun p => p.At == a) = some l1.length
  | [], _ => by simp [List.findIdx?_cons, hp]
  | q :: l1, h => by
    have hq : (q.At == a) = false := by simpa using h q (by simp)
    rw [List.cons_append, List.findIdx?_cons, hq, split_idx hp fun x hx => h x (by simp [hx])]
    rfl
theorem last_append (l o : List api_Page) (b : Int) : lastAt (l ++ o) b = (lastAt o b).or (lastAt l b) := by
  unfold lastAt; rw [List.reverse_append, List.find?_append]
theorem last_none {l : List api_Page} {b : Int} (h : ∀ x, x ∈ l → x.At ≠ b) : lastAt l b = none := by
  unfold lastAt; rw [List.find?_eq_none]; intro x hx; simpa using h x (List.mem_reverse.1 hx)
theorem last_cons (p : api_Page) (l : List api_Page) (b : Int) : lastAt (p :: l) b = (lastAt l b).or (if p.At = b then some p else none) := by
  have := last_append [p] l b
  rw [List.singleton_append] at this
  rw [this]; congr 1
  by_cases h : p.At = b <;> simp [lastAt, h]
def msk (bit : Int) : UInt8 := toU8 (shlK .u8 1 (Int.tmod bit 8))
theorem msk_ne {bit : Int} (h : 0 ≤ bit) : msk bit ≠ 0 := by
  have h1 : 0 ≤ bit.tmod 8 := Int.tmod_nonneg _ h
  have h2 : bit.tmod 8 < 8 := Int.tmod_lt_of_pos _ (by decide)
  unfold msk
  generalize bit.tmod 8 = r at h1 h2
  have : r = 0 ∨ r = 1 ∨ r = 2 ∨ r = 3 ∨ r = 4 ∨ r = 5 ∨ r = 6 ∨ r = 7 := by omega
  rcases this with h | h | h | h | h | h | h | h <;> subst h <;> decide
theorem xor_back (x m : UInt8) : (x ^^^ m) ^^^ m = x := by rw [UInt8.xor_assoc, UInt8.xor_self, UInt8.xor_zero]
theorem xor_other {x m : UInt8} (h : m ≠ 0) : x ^^^ m ≠ x := fun e => h (by
  have : x ^^^ (x ^^^ m) = x ^^^ x := by rw [e]
  rwa [← UInt8.xor_assoc, UInt8.xor_self, UInt8.zero_xor] at this)
theorem wrapi {n : Int} (h : InI64 n) : IntKind.i64.wrap n = n := IntWalk.i64_in _ h
theorem quo8 {bit : Int} (h : 0 ≤ bit) (h1 : bit < 1000000) : quoK .i64 bit 8 = ((bit.toNat / 8 : Nat) : Int) := by
  unfold quoK
  rw [Int.tdiv_eq_ediv_of_nonneg h]
  have e : bit / 8 = ((bit.toNat / 8 : Nat) : Int) := by omega
  rw [e]
  exact wrapi (by unfold InI64; omega)

theorem rot_ok {l1 l2 L : List api_Page} {p : api_Page} {b : Bool} {a bit : Int} {x : UInt8} (hp : p.At = a) (hl : ∀ x, x ∈ l1 → x.At ≠ a) (hn : (l1 ++ p :: l2).length ≤ 1000) (hd : p.Data.length ≤ 1000)
    (h0 : 0 ≤ bit) (h1 : bit < 8 * (p.Data.length : Int)) (hx : p.Data[bit.toNat / 8]? = some x) :
    disk_Rot ⟨l1 ++ p :: l2, L, b⟩ a bit = some ⟨l1 ++ ⟨p.At, p.Data.set (bit.toNat / 8) (x ^^^ msk bit)⟩ :: l2, L, b⟩ := by
  have hi : (l1 ++ p :: l2)[l1.length]? = some p := by simp
  have hq := quo8 h0 (by omega)
  refine Tot.eq ?_
  unfold disk_Rot
  have e := p_IndexR (l1 ++ p :: l2) a (by omega)
  rw [split_idx hp hl] at e
  refine Tot.bindeq e (Tot.bind (R := (· = false)) ?_ fun v hv => ?_)
  · refine Tot.bind (R := (· = false)) (Tot.ncond (by simp) (Tot.ret (by simp; omega))) fun v hv => ?_
    subst hv
    exact Tot.bind (R := (· = false)) (Tot.ncond (by decide) (Tot.bindeq (idx_some hi) (Tot.chk (by unfold InI64; omega) (Tot.ret (by simp; omega))))) fun _ h => Tot.ret h
  · subst hv
    refine Tot.ncond (by decide) (Tot.bindeq (idx_some hi) (Tot.bindeq (p_bClone _ (by omega)) ?_))
    rw [hq]
    refine Tot.bindeq (idx_some hx) (Tot.chk (Int.tmod_nonneg _ h0) (Tot.bindeq (idx_some hx) (Tot.bindeq (p_Clone_page _ (by show (l1 ++ p :: l2).length ≤ _; omega)) (Tot.bindeq (idx_some hi) (Tot.ret ?_)))))
    show api_Disk.mk ((l1 ++ p :: l2).set l1.length _) L b = _
    rw [List.set_append_right _ _ (Nat.le_refl _), Nat.sub_self]
    rfl

theorem tailN_inj {u v : Nat} (hu : u < 4294967296) (hv : v < 4294967296) (h : tailN u = tailN v) : u = v := by
  unfold tailN at h
  have s : ∀ w : Nat, shrK .i64 (w : Int) 0 = ((w >>> 0 : Nat) : Int) ∧ shrK .i64 (w : Int) 8 = ((w >>> 8 : Nat) : Int) ∧ shrK .i64 (w : Int) 16 = ((w >>> 16 : Nat) : Int) ∧ shrK .i64 (w : Int) 24 = ((w >>> 24 : Nat) : Int) := fun w => ⟨shrK_nat (b := 0) (by decide), shrK_nat (b := 8) (by decide), shrK_nat (b := 16) (by decide), shrK_nat (b := 24) (by decide)⟩
  rw [(s u).1, (s u).2.1, (s u).2.2.1, (s u).2.2.2, (s v).1, (s v).2.1, (s v).2.2.1, (s v).2.2.2] at h
  simp only [List.cons.injEq, and_true] at h
  obtain ⟨h0, h1, h2, h3⟩ := h
  have e0 := congrArg UInt8.toNat h0
  have e1 := congrArg UInt8.toNat h1
  have e2 := congrArg UInt8.toNat h2
  have e3 := congrArg UInt8.toNat h3
  rw [toU8_nat, toU8_nat, UInt8.toNat_ofNat', UInt8.toNat_ofNat'] at e0 e1 e2 e3
  simp only [Nat.shiftRight_eq_div_pow] at e0 e1 e2 e3
  omega
/-- A page with a byte turned is no page of a copy. -/
theorem page_turned {c c' : api_Copy} {K : Nat} {x y : UInt8} (hx : (pageN c)[K]? = some x) (hy : y ≠ x) : pageN c' ≠ (pageN c).set K y := by
  intro e
  have l1 : ∀ k : api_Copy, (pageN k).length = (bodyN k).length + 4 := fun k => by simp [pageN, tailN]
  have hl : (bodyN c').length = (bodyN c).length := by
    have := congrArg List.length e
    rw [List.length_set, l1, l1] at this; omega
  have hK := (getR hx).1
  rcases Nat.lt_or_ge K (bodyN c).length with hk | hk
  · have e1 : bodyN c' ++ tailN (sumN (bodyN c')) = (bodyN c).set K y ++ tailN (sumN (bodyN c)) := by
      have : (pageN c).set K y = (bodyN c).set K y ++ tailN (sumN (bodyN c)) := by unfold pageN; rw [List.set_append_left _ _ hk]
      rw [← this, ← e]; rfl
    obtain ⟨eb, et⟩ := List.append_inj e1 (by rw [List.length_set]; exact hl)
    have es := tailN_inj (sumN_lt _) (sumN_lt _) et
    rw [eb] at es
    have hx' : (bodyN c)[K]? = some x := by
      unfold pageN at hx
      rw [List.getElem?_append_left hk] at hx; exact hx
    exact hy (sumN_set hx' es)
  · have e1 : bodyN c' ++ tailN (sumN (bodyN c')) = bodyN c ++ (tailN (sumN (bodyN c))).set (K - (bodyN c).length) y := by
      have : (pageN c).set K y = bodyN c ++ (tailN (sumN (bodyN c))).set (K - (bodyN c).length) y := by unfold pageN; rw [List.set_append_right _ _ hk]
      rw [← this, ← e]; rfl
    obtain ⟨eb, et⟩ := List.append_inj e1 hl
    have e2 : pageN c' = pageN c := by unfold pageN; rw [eb]
    rw [e2] at e
    have : (pageN c)[K]? = ((pageN c).set K y)[K]? := congrArg (fun l => l[K]?) e
    rw [List.getElem?_set_self hK, hx] at this
    exact hy (Option.some.inj this).symm

theorem l_ChunkRots (d : api_Disk) (id : UInt8) (ver : Int) (data : List UInt8) (bit : Int) (h1 : ok_api_Disk d) (h2 : ok_u8 id) (h3 : ok_u16 ver) (h4 : okL_cU8 data) (h5 : ok_u16 bit) : law25_ChunkRots d id ver data bit = some true := by
  clear h2 h4
  refine Tot.eq ?_
  unfold law25_ChunkRots
  refine Tot.bindeq p_head (Tot.bind (R := fun b => b = false → modest d ∧ d.Down = false) ?_ fun b hb => Tot.ite (fun _ => Tot.ret rfl) fun hn => ?_)
  · exact Tot.bind (t_Great d) fun g hg => Tot.bind (R := fun b => b = false → modest d ∧ d.Down = false) (Tot.ite (fun _ => Tot.ret fun e => by cases e) fun hn => Tot.ret fun e => ⟨hg (by simpa using hn), e⟩) fun _ h => Tot.ret h
  obtain ⟨hm, hup⟩ := hb (by simpa using hn)
  have ok0 := okD_of hm h1
  obtain ⟨hc, hcl⟩ := mayC_may (id := id) h3 data
  refine Tot.bindeq (p_mayC id ver data) ?_
  generalize mayC id ver data = c at *
  obtain ⟨S, L, w⟩ := d
  dsimp only at hup
  subst hup
  have okc := mayP_small hc
  have hw : withinP c.Id := hc.1
  have hm0 : mayN c.Id 0 := ⟨⟨hc.1.1, by have := hc.1.2; omega⟩, Nat.zero_le _⟩
  have ok1 := ok0.add (page_ok hc hcl)
  have ok5 := ok1.laid (c := false)
  refine Tot.bindeq (p_Put _ c (ok0.mono (by omega)).small (by have := okc.2.2.2.1; omega)) ?_
  rw [put_up hc hcl]
  dsimp only
  refine Tot.bindeq (p_SyncD (ok1.mono (by omega))) ?_
  have hlast : lastAt (laidN S (L ++ [⟨c.Id, pageN c⟩])) c.Id = some ⟨c.Id, pageN c⟩ := by
    rw [last_laid]
    unfold lastAt
    simp
  have hasc := laid_asc S (L ++ [⟨c.Id, pageN c⟩])
  generalize laidN S (L ++ [⟨c.Id, pageN c⟩]) = S5 at *
  have rd : ∀ (T : List api_Page) (q : api_Page), lastAt T c.Id = some q → readN ⟨T, [], false⟩ c.Id = (q.Data, 0) := fun T q h => by
    unfold readN
    rw [if_neg Bool.false_ne_true, if_pos hm0]
    unfold lastAt at h
    show (match List.find? _ (T ++ []).reverse with | none => _ | some p => _) = _
    rw [List.append_nil, h]
  have r5 := rd S5 _ hlast
  have d5 := (ok5.mono (m := 500) (by omega)).small
  have hpos : 0 < (pageN c).length := List.length_pos_iff.2 (page_ne c)
  refine Tot.bindeq (p_Read _ _ d5) ?_
  rw [r5]
  dsimp only
  refine Tot.bind (R := (· = false)) ?_ fun v2 e2 => ?_
  · refine Tot.bind (R := (· = false)) (Tot.of rfl) fun v h => ?_
    subst h
    refine Tot.bind (R := (· = false)) (Tot.of rfl) fun v h => ?_
    subst h
    exact Tot.bind (R := (· = false)) (Tot.ncond (by decide) (Tot.ret (by simp; exact page_ne c))) fun _ h => Tot.ret h
  subst e2
  refine Tot.ncond (by decide) (Tot.chk (by unfold InI64; omega) (Tot.chk (by omega) ?_))
  have hb0 : IntKind.i64.wrap bit = bit := wrapi (by unfold ok_u16 at h5; unfold InI64; omega)
  rw [hb0]
  have t0 : 0 ≤ bit.tmod (8 * ((pageN c).length : Int)) := Int.tmod_nonneg _ (by unfold ok_u16 at h5; omega)
  have t1 : bit.tmod (8 * ((pageN c).length : Int)) < 8 * ((pageN c).length : Int) := Int.tmod_lt_of_pos _ (by omega)
  generalize bit.tmod (8 * ((pageN c).length : Int)) = t at t0 t1
  have hi : ∃ n, S5.findIdx? (fun p => p.At == c.Id) = some n := by
    cases hf : S5.findIdx? (fun p => p.At == c.Id) with
    | some n => exact ⟨n, rfl⟩
    | none =>
      have := List.findIdx?_eq_none_iff.1 hf _ (last_at hlast).2
      simp at this
  obtain ⟨n, hn⟩ := hi
  obtain ⟨l1, p, l2, eS, hp, hl⟩ := idx_split hn
  have h2n : lastAt l2 c.Id = none := last_none fun y hy e => by
    rw [eS] at hasc
    have := (List.pairwise_append.1 hasc).2.1
    have := (List.pairwise_cons.1 this).1 y hy
    omega
  have hpe : p = ⟨c.Id, pageN c⟩ := by
    rw [eS, last_append, last_cons, h2n, if_pos hp] at hlast
    exact Option.some.inj hlast
  have hpd : p.Data = pageN c := by rw [hpe]
  have hK : t.toNat / 8 < (pageN c).length := by omega
  have hx := getLt hK
  generalize (pageN c)[t.toNat / 8] = x at hx
  have hsl : (l1 ++ p :: l2).length ≤ 1000 := by rw [← eS]; exact d5.1
  have hr := rot_ok (L := []) (b := false) (l1 := l1) (l2 := l2) hp hl hsl (by rw [hpd]; omega) t0 (by rw [hpd]; exact t1) (by rw [hpd]; exact hx)
  rw [← eS, hpd] at hr
  have hq : lastAt (l1 ++ (⟨p.At, (pageN c).set (t.toNat / 8) (x ^^^ msk t)⟩ : api_Page) :: l2) c.Id = some ⟨p.At, (pageN c).set (t.toNat / 8) (x ^^^ msk t)⟩ := by
    rw [last_append, last_cons, h2n, if_pos hp]; rfl
  have r7 := rd _ _ hq
  have ok7 : OkD ⟨l1 ++ (⟨p.At, (pageN c).set (t.toNat / 8) (x ^^^ msk t)⟩ : api_Page) :: l2, [], false⟩ 130 := ⟨by
      have := ok5.s
      dsimp only at this ⊢
      rw [eS] at this
      simp only [List.length_append, List.length_cons] at this ⊢; omega, Nat.zero_le _, fun q hq => by
      have hx5 := ok5.x
      rw [eS] at hx5
      dsimp only at hx5 hq
      rw [List.append_nil] at hq hx5
      rcases List.mem_append.1 hq with h | h
      · exact hx5 q (List.mem_append_left _ h)
      · rcases List.mem_cons.1 h with e | h
        · rw [e]
          exact ⟨by dsimp only; rw [List.length_set]; omega, (hx5 p (by simp)).2⟩
        · exact hx5 q (List.mem_append_right _ (List.mem_cons_of_mem _ h))⟩
  generalize l1 ++ (⟨p.At, (pageN c).set (t.toNat / 8) (x ^^^ msk t)⟩ : api_Page) :: l2 = S7 at *
  have d7 := (ok7.mono (m := 500) (by omega)).small
  dsimp only at r7
  have hne7 : (pageN c).set (t.toNat / 8) (x ^^^ msk t) ≠ [] := fun e => by
    have := congrArg List.length e
    rw [List.length_set, List.length_nil] at this; omega
  have th7 : thereN ⟨S7, [], false⟩ c.Id = ((pageN c).set (t.toNat / 8) (x ^^^ msk t), 0) := by
    unfold thereN
    rw [if_pos hw, r7, if_neg (fun h => hne7 h.2)]
  obtain ⟨g8, e8, g8a, -, g8b, -⟩ := t_GetS ⟨S7, [], false⟩ c.Id d7
  rw [th7, if_pos rfl] at g8a
  have h251 : g8.2 = 251 := by
    rcases g8a with h | h
    · have := (g8b h).2.2
      rw [th7] at this
      exact absurd this (page_turned hx (xor_other (msk_ne t0)))
    · exact h
  refine Tot.bindeq hr (Tot.bindeq e8 (Tot.bindeq (p_Put _ c d7 (by have := okc.2.2.2.1; omega)) ?_))
  rw [put_up hc hcl, h251]
  dsimp only
  have ok9 := ok7.add (page_ok hc hcl)
  refine Tot.bindeq (p_Get_there (ok9.mono (by omega)).small hc rfl (there_put hc)) ?_
  refine Tot.bind (R := (· = true)) ?_ fun v hv => Tot.ret hv
  refine Tot.bind (R := (· = true)) (Tot.of rfl) fun v h => ?_
  subst h
  refine Tot.bind (R := (· = true)) (Tot.cond rfl (Tot.bindeq (p_Has _ d7) (Tot.bindeq (p_has _ _ (by have := hasN_len ⟨S7, [], false⟩; omega)) (Tot.ret (decide_eq_true (hasN_mem.2 ⟨hw, by rw [th7]⟩)))))) fun v h => ?_
  subst h
  refine Tot.bind (R := (· = true)) (Tot.of rfl) fun v h => ?_
  subst h
  refine Tot.bind (R := (· = true)) (Tot.of rfl) fun v h => ?_
  subst h
  exact Tot.bind (R := (· = true)) (Tot.cond rfl (Tot.bind (p_Same c c ⟨by have := okc.2.2.1; omega, by have := okc.2.2.2.1; omega⟩) fun b hb => Tot.ret (hb.2 rfl))) fun _ h => Tot.ret h
end Go.Proofs
