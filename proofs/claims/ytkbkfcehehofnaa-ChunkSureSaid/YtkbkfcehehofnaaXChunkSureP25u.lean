/- Chunks, plain: pages laid over others; what is made sure of. No condition. -/
import Derived.Test.YtkbkfcehehofnaaXChunkSureP25j
import Derived.Test.YtkbkfcehehofnaaCat5
namespace Go.Proofs
set_option linter.all false
open Go Go.Cat

def goodP (p : api_Page) : Prop := (0 ≤ p.At ∧ p.At < 1000) ∧ p.Data.length ≤ 200
def lastAt (l : List api_Page) (a : Int) : Option api_Page := l.reverse.find? (fun p => p.At == a)
def byM (m : List (Int × api_Page)) (l : List api_Page) : List (Int × api_Page) := l.foldl (fun m p => mset p.At p m) m
def laidN (l o : List api_Page) : List api_Page := (keysI (byM [] (l ++ o))).map fun k => (mget k (byM [] (l ++ o))).getD (⟨0, []⟩ : api_Page)

theorem mget_mset {α : Type} (k n : Int) (v : α) : ∀ m : List (Int × α), mget k (mset n v m) = if n = k then some v else mget k m
  | [] => by simp only [mset, mget]
  | (j, c) :: r => by
    unfold mset
    by_cases hj : j = n
    · rw [if_pos hj]; subst hj; simp only [mget]; split <;> rfl
    · rw [if_neg hj]
      simp only [mget]
      rw [mget_mset k n v r]
      by_cases hk : j = k
      · rw [if_pos hk, if_pos hk, if_neg (fun e => hj (hk.trans e.symm))]
      · rw [if_neg hk, if_neg hk]
theorem mset_len {α : Type} (n : Int) (v : α) : ∀ m : List (Int × α), (mset n v m).length ≤ m.length + 1
  | [] => by simp [mset]
  | (j, c) :: r => by
    unfold mset
    split
    · simp
    · have := mset_len n v r; simp only [List.length_cons]; omega
theorem mget_mem {α : Type} {k : Int} {v : α} : ∀ {m : List (Int × α)}, mget k m = some v → k ∈ m.map (·.1)
  | [], h => by simp [mget] at h
  | (j, c) :: r, h => by
    unfold mget at h
    split at h
    · rename_i hj; simp [hj]
    · simp only [List.map_cons, List.mem_cons]; exact .inr (mget_mem h)
theorem mem_mget {α : Type} {k : Int} : ∀ {m : List (Int × α)}, k ∈ m.map (·.1) → ∃ v, mget k m = some v
  | [], h => by simp at h
  | (j, c) :: r, h => by
    unfold mget
    by_cases hj : j = k
    · exact ⟨c, if_pos hj⟩
    · rw [if_neg hj]
      simp only [List.map_cons, List.mem_cons] at h
      rcases h with h | h
      · exact absurd h.symm hj
      · exact mem_mget h
theorem mget_by (k : Int) : ∀ (l : List api_Page) (m : List (Int × api_Page)), mget k (byM m l) = (lastAt l k).or (mget k m)
  | [], m => by simp [byM, lastAt]
  | p :: l, m => by
    have h := mget_by k l (mset p.At p m)
    show mget k (byM (mset p.At p m) l) = _
    rw [h, mget_mset]
    unfold lastAt
    rw [List.reverse_cons, List.find?_append]
    by_cases hp : p.At = k
    · simp [hp]
    · simp [hp]
theorem by_len : ∀ (l : List api_Page) (m : List (Int × api_Page)), (byM m l).length ≤ m.length + l.length
  | [], m => by simp [byM]
  | p :: l, m => by
    have h := by_len l (mset p.At p m)
    have h2 := mset_len p.At p m
    show (byM (mset p.At p m) l).length ≤ _
    simp only [List.length_cons]; omega
theorem last_at {l : List api_Page} {a : Int} {p : api_Page} (h : lastAt l a = some p) : p.At = a ∧ p ∈ l := by
  unfold lastAt at h
  exact ⟨by simpa using List.find?_some h, List.mem_reverse.1 (List.mem_of_find?_eq_some h)⟩
theorem mget_by0 (k : Int) (l : List api_Page) : mget k (byM [] l) = lastAt l k := by
  rw [mget_by]; simp [mget]
theorem mem_keys {k : Int} {m : List (Int × api_Page)} : k ∈ keysI m ↔ k ∈ m.map (·.1) := List.mem_mergeSort
theorem mem_laid {l o : List api_Page} {p : api_Page} (h : p ∈ laidN l o) : lastAt (l ++ o) p.At = some p := by
  unfold laidN at h
  obtain ⟨k, hk, rfl⟩ := List.mem_map.1 h
  obtain ⟨v, hv⟩ := mem_mget (mem_keys.1 hk)
  rw [hv]
  rw [mget_by0] at hv
  show lastAt _ v.At = some v
  rw [(last_at hv).1]; exact hv
theorem laid_len (l o : List api_Page) : (laidN l o).length ≤ l.length + o.length := by
  unfold laidN keysI
  rw [List.length_map, List.length_mergeSort, List.length_map]
  have := by_len (l ++ o) []
  simpa using this
theorem last_laid (l o : List api_Page) (a : Int) : lastAt (laidN l o) a = lastAt (l ++ o) a := by
  cases h : lastAt (l ++ o) a with
  | none =>
    unfold lastAt
    rw [List.find?_eq_none]
    intro p hp hpa
    have := mem_laid (List.mem_reverse.1 hp)
    have e : p.At = a := by simpa using hpa
    rw [e, h] at this; cases this
  | some p =>
    have hm : p ∈ laidN l o := by
      unfold laidN
      refine List.mem_map.2 ⟨a, mem_keys.2 (mget_mem (v := p) (by rw [mget_by0]; exact h)), ?_⟩
      rw [mget_by0, h]; rfl
    have hs : (lastAt (laidN l o) a).isSome := by
      unfold lastAt
      rw [List.find?_isSome]
      exact ⟨p, List.mem_reverse.2 hm, by simpa using (last_at h).1⟩
    obtain ⟨q, hq⟩ := Option.isSome_iff_exists.1 hs
    have h1 := mem_laid (last_at hq).2
    rw [(last_at hq).1, h] at h1
    rw [hq, h1]
theorem laid_good {l o : List api_Page} (h : ∀ p, p ∈ l ++ o → goodP p) : ∀ p, p ∈ laidN l o → goodP p := fun p hp => h p (last_at (mem_laid hp)).2

theorem p_laid (l o : List api_Page) (h : l.length + o.length ≤ 100000) (hg : ∀ p, p ∈ l ++ o → InI64 p.At) : disk_laid l o = some (laidN l o) := by
  have k1 : ∀ (r : List api_Page) (n : Nat) (m : List (Int × api_Page)), (l ++ o).drop n = r → n ≤ (l ++ o).length → m.length ≤ n → loop (disk_laid_B1 (l ++ o)) ((n : Int), m) = some (byM m r) := by
    have hl : (l ++ o).length ≤ 100000 := by simpa using h
    intro r
    induction r with
    | nil =>
      intro n m hd hn _
      have : n = (l ++ o).length := by have := congrArg List.length hd; simp only [List.length_drop, List.length_nil] at this; omega
      subst this
      refine loop_inr ?_
      unfold disk_laid_B1
      rw [if_neg (by simp)]
      simp [out, byM]
    | cons x r ih =>
      intro n m hd hn hm
      have hlt : n < (l ++ o).length := by
        rcases Nat.lt_or_ge n (l ++ o).length with h | h
        · exact h
        · rw [List.drop_eq_nil_of_le h] at hd; cases hd
      rw [List.drop_eq_getElem_cons hlt] at hd
      injection hd with hx hr
      have hx' : (l ++ o)[n]? = some x := by rw [List.getElem?_eq_getElem hlt, hx]
      have e : disk_laid_B1 (l ++ o) ((n : Int), m) = some (.inl (((n + 1 : Nat) : Int), mset x.At x m)) := by
        refine Tot.eq ?_
        unfold disk_laid_B1
        refine Tot.ite (fun _ => Tot.bindeq (idx_some hx') (Tot.chk ⟨hg x (List.mem_of_getElem? hx'), by dsimp only; omega⟩ (Tot.chk (by dsimp only; unfold InI64; omega) (Tot.ret rfl)))) (fun hh => absurd hh (by simp only [decide_eq_true_eq]; omega))
      rw [loop_inl e, ih (n + 1) _ hr hlt (by have := mset_len x.At x m; omega)]
      rfl
  have k2 : ∀ (ks : List Int) (m : List (Int × api_Page)) (r : List Int) (n : Nat) (a : List api_Page), ks.drop n = r → n ≤ ks.length → a.length + r.length ≤ 1000000 → ks.length ≤ 1000000 → loop (disk_laid_B2 ks m) ((n : Int), a) = some (a ++ r.map fun k => (mget k m).getD (⟨0, []⟩ : api_Page)) := by
    intro ks m r
    induction r with
    | nil =>
      intro n a hd hn _ _
      have : n = ks.length := by have := congrArg List.length hd; simp only [List.length_drop, List.length_nil] at this; omega
      subst this
      refine loop_inr ?_
      unfold disk_laid_B2
      rw [if_neg (by simp)]
      simp [out]
    | cons x r ih =>
      intro n a hd hn ha hks
      have hlt : n < ks.length := by
        rcases Nat.lt_or_ge n ks.length with h | h
        · exact h
        · rw [List.drop_eq_nil_of_le h] at hd; cases hd
      rw [List.drop_eq_getElem_cons hlt] at hd
      injection hd with hx hr
      have hx' : ks[n]? = some x := by rw [List.getElem?_eq_getElem hlt, hx]
      simp only [List.length_cons] at ha
      have e : disk_laid_B2 ks m ((n : Int), a) = some (.inl (((n + 1 : Nat) : Int), a ++ [(mget x m).getD (⟨0, []⟩ : api_Page)])) := by
        refine Tot.eq ?_
        unfold disk_laid_B2
        refine Tot.ite (fun _ => Tot.bindeq (idx_some hx') (Tot.bindeq rfl (Tot.chk (by dsimp only; simp only [List.length_cons, List.length_nil]; omega) (Tot.chk (by dsimp only; unfold InI64; omega) (Tot.ret rfl))))) (fun hh => absurd hh (by simp only [decide_eq_true_eq]; omega))
      rw [loop_inl e, ih (n + 1) _ hr hlt (by simp only [List.length_append, List.length_cons, List.length_nil]; omega) hks]
      simp
  have hl : (l ++ o).length ≤ 100000 := by simpa using h
  have hb := by_len (l ++ o) []
  simp only [List.length_nil] at hb
  have hk : (keysI (byM [] (l ++ o))).length = (byM [] (l ++ o)).length := by unfold keysI; rw [List.length_mergeSort, List.length_map]
  refine Tot.eq ?_
  unfold disk_laid disk_laid_L1 disk_laid_L2
  have hc : slices_Concat_api_Page_api_Page [l, o] = some (l ++ o) := by
    rw [p_Concat_page [l, o] (by simp; omega) (by simp)]; simp
  refine Tot.bind (R := (· = byM [] (l ++ o))) (Tot.bindeq hc (Tot.of (k1 (l ++ o) 0 [] rfl (Nat.zero_le _) (Nat.le_refl _)))) fun v hv => ?_
  subst hv
  refine Tot.bind (R := (· = laidN l o)) (Tot.chk (by omega) (Tot.bindeq rfl (Tot.of ?_))) fun v hv => Tot.ret hv
  rw [show ((0 : Int), ([] : List api_Page)) = (((0 : Nat) : Int), []) from rfl, k2 (keysI (byM [] (l ++ o))) _ _ 0 [] rfl (Nat.zero_le _) (by simp only [List.length_nil, List.drop_zero]; omega) (by omega)]
  rfl

theorem laid_all {l o : List api_Page} {R : api_Page → Prop} (h : ∀ p, p ∈ l ++ o → R p) : ∀ p, p ∈ laidN l o → R p := fun p hp => h p (last_at (mem_laid hp)).2
theorem readN_last {d e : api_Disk} (a : Int) (hd : d.Down = false) (he : e.Down = false) (h : lastAt (d.Synced ++ d.Loose) a = lastAt (e.Synced ++ e.Loose) a) : readN d a = readN e a := by
  unfold readN
  unfold lastAt at h
  rw [hd, he, h]
theorem there_congr {d e : api_Disk} {a : Int} (h : readN d a = readN e a) : thereN d a = thereN e a := by
  unfold thereN; rw [h]
theorem there_laid (S L : List api_Page) (a : Int) : thereN ⟨laidN S L, [], false⟩ a = thereN ⟨S, L, false⟩ a := there_congr (readN_last a rfl rfl (by
  show lastAt (laidN S L ++ []) a = lastAt (S ++ L) a
  rw [List.append_nil, last_laid]))
theorem mod_bit {b : Bool} {x : Int} (hb : b = false) (hx : x = 0) : Tot (if b = true then some true else some (x != 0)) (· = false) := by
  subst hb hx; exact ⟨_, rfl, rfl⟩

structure OkD (d : api_Disk) (n : Nat) : Prop where
  s : d.Synced.length ≤ n
  l : d.Loose.length ≤ n
  x : ∀ p, p ∈ d.Synced ++ d.Loose → p.Data.length ≤ 1000 ∧ InI64 p.At
theorem OkD.small {d : api_Disk} (h : OkD d 500) : smallD d := ⟨by have := h.s; omega, by have := h.l; omega, fun p hp => (h.x p hp).1⟩
theorem OkD.mono {d : api_Disk} {n m : Nat} (h : OkD d n) (e : n ≤ m) : OkD d m := ⟨by have := h.s; omega, by have := h.l; omega, h.x⟩
theorem OkD.laid {S L : List api_Page} {b c : Bool} {n : Nat} (h : OkD ⟨S, L, b⟩ n) : OkD ⟨laidN S L, [], c⟩ (n + n) :=
  ⟨Nat.le_trans (laid_len _ _) (by have := h.s; have := h.l; dsimp only at *; omega), Nat.zero_le _, fun p hp => laid_all h.x p (by simpa using hp)⟩
theorem OkD.add {S L : List api_Page} {b : Bool} {n : Nat} {p : api_Page} (h : OkD ⟨S, L, b⟩ n) (hp : p.Data.length ≤ 1000 ∧ InI64 p.At) : OkD ⟨S, L ++ [p], b⟩ (n + 1) :=
  ⟨by have := h.s; dsimp only at *; omega, by have := h.l; dsimp only at *; simp only [List.length_append, List.length_cons, List.length_nil]; omega, fun q hq => by
    simp only [List.mem_append, List.mem_singleton] at hq
    rcases hq with hq | hq | hq
    · exact h.x q (List.mem_append_left _ hq)
    · exact h.x q (List.mem_append_right _ hq)
    · rw [hq]; exact hp⟩
theorem OkD.up {S L : List api_Page} {b c : Bool} {n : Nat} (h : OkD ⟨S, L, b⟩ n) : OkD ⟨S, L, c⟩ n := ⟨h.s, h.l, h.x⟩
theorem OkD.take {S L : List api_Page} {b : Bool} {n : Nat} (k : Nat) (h : OkD ⟨S, L, b⟩ n) : OkD ⟨S, L.take k, b⟩ n :=
  ⟨h.s, by have := h.l; dsimp only at *; simp only [List.length_take]; omega, fun q hq => h.x q (by
    rcases List.mem_append.1 hq with e | e
    · exact List.mem_append_left _ e
    · exact List.mem_append_right _ (List.mem_of_mem_take e))⟩
theorem p_SyncD {S L : List api_Page} (h : OkD ⟨S, L, false⟩ 500) : disk_Sync ⟨S, L, false⟩ = some (⟨laidN S L, [], false⟩, 0) := by
  unfold disk_Sync
  rw [if_neg Bool.false_ne_true, p_laid S L (by have := h.s; have := h.l; dsimp only at *; omega) (fun p hp => (h.x p hp).2)]; rfl
theorem p_CrashD {S L : List api_Page} (k : Int) (h : OkD ⟨S, L, false⟩ 500) : disk_Crash ⟨S, L, false⟩ k = some ⟨laidN S (L.take (min (max k 0) (L.length : Int)).toNat), [], true⟩ := by
  unfold disk_Crash
  have h2 := h.take (min (max k 0) (L.length : Int)).toNat
  rw [chk_pos (by dsimp only; omega), p_laid S _ (by have := h2.s; have := h2.l; dsimp only at *; omega) (fun p hp => (h2.x p hp).2)]; rfl
theorem page_ne (c : api_Copy) : pageN c ≠ [] := fun e => by have := congrArg List.length e; simp [pageN, tailN] at this
theorem put_up {S L : List api_Page} {c : api_Copy} (hc : mayP c) (hpl : (pageN c).length ≤ 200) : putN ⟨S, L, false⟩ c = (⟨S, L ++ [⟨c.Id, pageN c⟩], false⟩, 0) := by
  unfold putN writeN
  have hw := hc.1
  rw [if_pos hc, if_neg Bool.false_ne_true, if_pos ⟨⟨hw.1, by omega⟩, hpl⟩]
theorem there_put {S L : List api_Page} {c : api_Copy} (hc : mayP c) : thereN ⟨S, L ++ [⟨c.Id, pageN c⟩], false⟩ c.Id = (pageN c, 0) := by
  have hw : withinP c.Id := hc.1
  have hw2 := hc.1
  unfold thereN
  rw [if_pos hw, read_add_same Bool.false_ne_true ⟨⟨hw2.1, by omega⟩, Nat.zero_le _⟩, if_neg (fun h => page_ne c h.2)]
theorem okD_of {d : api_Disk} (hm : modest d) (h : ok_api_Disk d) : OkD d 60 := ⟨hm.1, hm.2.1, fun p hp => ⟨by have := hm.2.2 p hp; omega, by
  rcases List.mem_append.1 hp with e | e
  · exact (h.1.2 p e).1
  · exact (h.2.1.2 p e).1⟩⟩
theorem page_ok {c : api_Copy} (hc : mayP c) (hpl : (pageN c).length ≤ 200) : ((⟨c.Id, pageN c⟩ : api_Page).Data.length ≤ 1000) ∧ InI64 (⟨c.Id, pageN c⟩ : api_Page).At := ⟨by show (pageN c).length ≤ 1000; omega, by have := hc.1; unfold InI64; dsimp only; omega⟩

theorem l_ChunkSure (d : api_Disk) (id : UInt8) (ver : Int) (data : List UInt8) (later : UInt8) (keep : UInt8) (h1 : ok_api_Disk d) (h2 : ok_u8 id) (h3 : ok_u16 ver) (h4 : okL_cU8 data) (h5 : ok_u8 later) (h6 : ok_u8 keep) : law25_ChunkSure d id ver data later keep = some true := by
  clear h2 h4 h5 h6
  refine Tot.eq ?_
  unfold law25_ChunkSure
  refine Tot.bindeq p_head (Tot.bind (R := fun b => b = false → modest d ∧ d.Down = false) ?_ fun b hb => Tot.ite (fun _ => Tot.ret rfl) fun hn => ?_)
  · exact Tot.bind (t_Great d) fun g hg => Tot.bind (R := fun b => b = false → modest d ∧ d.Down = false) (Tot.ite (fun _ => Tot.ret fun e => by cases e) fun hn => Tot.ret fun e => ⟨hg (by simpa using hn), e⟩) fun _ h => Tot.ret h
  obtain ⟨hm, hup⟩ := hb (by simpa using hn)
  have ok0 := okD_of hm h1
  obtain ⟨hc, hcl⟩ := mayC_may (id := id) h3 data
  obtain ⟨ho, hol⟩ := mayC_may (id := later) (ver := 9) (by omega) data
  refine Tot.bindeq (p_mayC id ver data) ?_
  generalize mayC id ver data = c at *
  obtain ⟨S, L, w⟩ := d
  dsimp only at hup
  subst hup
  have okc := mayP_small hc
  have oko := mayP_small ho
  have ok1 := ok0.add (page_ok hc hcl)
  have ok5 := ok1.laid (c := false)
  refine Tot.bindeq (p_Put _ c (ok0.mono (by omega)).small (by have := okc.2.2.2.1; omega)) ?_
  rw [put_up hc hcl]
  dsimp only
  refine Tot.bindeq (p_SyncD (ok1.mono (by omega))) (Tot.bindeq (p_mayC later 9 data) ?_)
  generalize mayC later 9 data = o at *
  generalize hS5 : laidN S (L ++ [⟨c.Id, pageN c⟩]) = S5 at *
  have ts : ∀ a, thereN ⟨S5, [], false⟩ a = thereN ⟨S, L ++ [⟨c.Id, pageN c⟩], false⟩ a := fun a => by rw [← hS5]; exact there_laid _ _ a
  have okt := ok5.add (page_ok ho hol)
  refine Tot.bindeq (p_Put _ o (ok5.mono (by omega)).small (by have := oko.2.2.2.1; omega)) ?_
  rw [put_up ho hol]
  dsimp only
  refine Tot.bind (R := (· = false)) (Tot.of rfl) fun v2 e2 => ?_
  subst e2
  refine Tot.ncond (by decide) (Tot.bindeq (p_CrashD _ (okt.mono (by omega))) (Tot.bindeq (a := ⟨laidN S5 (([] ++ [(⟨o.Id, pageN o⟩ : api_Page)]).take (min (max (keep.toNat : Int) 0) (([] ++ [(⟨o.Id, pageN o⟩ : api_Page)]).length : Int)).toNat), [], false⟩) rfl ?_))
  have oku := (okt.take (min (max (keep.toNat : Int) 0) (([] ++ [(⟨o.Id, pageN o⟩ : api_Page)]).length : Int)).toNat).laid (c := false)
  have tu : ∀ a, thereN ⟨laidN S5 (([] ++ [(⟨o.Id, pageN o⟩ : api_Page)]).take (min (max (keep.toNat : Int) 0) (([] ++ [(⟨o.Id, pageN o⟩ : api_Page)]).length : Int)).toNat), [], false⟩ a = (if keep.toNat = 0 then thereN ⟨S5, [], false⟩ a else thereN ⟨S5, [] ++ [⟨o.Id, pageN o⟩], false⟩ a) := fun a => by
    rw [there_laid]
    split
    · rename_i hk
      rw [hk]; rfl
    · rename_i hk
      rw [List.take_of_length_le (by simp only [List.length_append, List.length_cons, List.length_nil]; omega)]
  generalize laidN S5 (([] ++ [(⟨o.Id, pageN o⟩ : api_Page)]).take (min (max (keep.toNat : Int) 0) (([] ++ [(⟨o.Id, pageN o⟩ : api_Page)]).length : Int)).toNat) = SU at *
  have du := (oku.mono (m := 500) (by omega)).small
  have ds := (ok5.mono (m := 500) (by omega)).small
  have tc : c.Id ≠ o.Id → thereN ⟨SU, [], false⟩ c.Id = (pageN c, 0) := fun hne => by
    rw [tu]
    split
    · rw [ts]; exact there_put hc
    · rw [there_other hne, ts]; exact there_put hc
  obtain ⟨g10, e10, -, -, -⟩ := t_GetS ⟨SU, [], false⟩ c.Id du
  refine Tot.bindeq e10 (Tot.bind (R := (· = false)) (Tot.bind (R := (· = false)) (Tot.ite (fun hne => ?_) fun _ => Tot.ret rfl) fun _ h => Tot.ret h) fun v3 e3 => ?_)
  · have hne : c.Id ≠ o.Id := by simpa using hne
    have := p_Get_there du hc rfl (tc hne)
    rw [this] at e10; cases e10
    exact Tot.bind (R := (· = false)) (Tot.ncond (by show ¬ ((0 : Int) != 0) = true; decide) (Tot.bind (p_Same c c ⟨by have := okc.2.2.1; omega, by have := okc.2.2.2.1; omega⟩) fun b hb => Tot.ret (by rw [hb.2 rfl]; rfl))) fun _ h => Tot.ret h
  subst e3
  refine Tot.ncond (by decide) ?_
  obtain ⟨g12, e12, -, l12, -⟩ := t_GetS ⟨SU, [], false⟩ o.Id du
  obtain ⟨g13, e13, -, l13, -⟩ := t_GetS ⟨S5, [], false⟩ o.Id ds
  refine Tot.bindeq e12 (Tot.bindeq e13 (Tot.bind (R := fun v => keep.toNat ≠ 0 → v = true) ?_ fun v4 h4 => Tot.bind (R := fun v => keep.toNat = 0 → v = true) ?_ fun v5 h5 => ?_))
  · by_cases hk : keep.toNat = 0
    · exact Tot.bind (R := fun _ => True) (Tot.ite (fun _ => Tot.bind (p_Same _ _ ⟨by omega, by omega⟩) fun _ _ => Tot.ret trivial) fun _ => Tot.ret trivial) fun _ _ => Tot.ret fun h => absurd hk h
    · have t := tu o.Id
      rw [if_neg hk, there_put ho] at t
      have := p_Get_there du ho rfl t
      rw [this] at e12; cases e12
      exact Tot.bind (R := (· = true)) (Tot.cond rfl (Tot.bind (p_Same o o ⟨by have := oko.2.2.1; omega, by have := oko.2.2.2.1; omega⟩) fun b hb => Tot.ret (hb.2 rfl))) fun _ h => Tot.ret fun _ => h
  · by_cases hk : keep.toNat = 0
    · have t := tu o.Id
      rw [if_pos hk] at t
      have := Get_congr du ds t
      rw [e12, e13] at this; cases this
      exact Tot.bind (R := (· = true)) (Tot.cond (by simp) (Tot.bind (p_Same _ _ ⟨by omega, by omega⟩) fun b hb => Tot.ret (hb.2 rfl))) fun _ h => Tot.ret fun _ => h
    · exact Tot.bind (R := fun _ => True) (Tot.ite (fun _ => Tot.bind (p_Same _ _ ⟨by omega, by omega⟩) fun _ _ => Tot.ret trivial) fun _ => Tot.ret trivial) fun _ _ => Tot.ret fun h => absurd h hk
  · refine Tot.of ?_
    by_cases hk : keep.toNat = 0
    · rw [h5 hk, hk]; cases v4 <;> rfl
    · rw [h4 hk]
      have a1 : (decide ((keep.toNat : Int) > 0)) = true := decide_eq_true (by omega)
      have a2 : ((keep.toNat : Int) == 0) = false := by simp; omega
      rw [a1, a2]; cases v5 <;> rfl
end Go.Proofs
