/- Disks, plain: the document's acts are the program's. No condition. -/
import Derived.Test.YtlhgbjgfnihijaaXDiskTellsP04i
import Derived.Test.YtlhgbjgfnihijaaXDiskTellsIn
namespace Go.Proofs
set_option linter.all false
open Go Go.Cat
set_option linter.all false

theorem lay_len (S : List api_Page) (p : api_Page) : (layN S p).length ≤ S.length + 1 := by
  unfold layN
  have : (S.filter (fun x => decide (x.At < p.At))).length + (S.filter (fun x => decide (p.At < x.At))).length ≤ S.length := by
    induction S with
    | nil => simp
    | cons x S ih =>
      by_cases h1 : x.At < p.At
      · have h2 : ¬ p.At < x.At := by omega
        simp [h1, h2]; omega
      · by_cases h2 : p.At < x.At
        · simp [h1, h2]; omega
        · simp [h1, h2]; omega
  simp; omega
theorem fold_len : ∀ (L S : List api_Page), (L.foldl layN S).length ≤ S.length + L.length
  | [], S => by simp
  | p :: L, S => by have := fold_len L (layN S p); have := lay_len S p; simp only [List.foldl_cons, List.length_cons]; omega
theorem p_layT (S L : List api_Page) (n : Nat) (x : api_Page) (hx : L[n]? = some x) (hA : Asc S) (hn : S.length + L.length ≤ 1000) : ref04_lay ((L.take n).foldl layN S) x = some ((L.take (n + 1)).foldl layN S) := by
  rw [p_lay _ _ (lay_fold _ _ hA).1 (by have := fold_len (L.take n) S; simp only [List.length_take] at this; omega), ← take_app hx, List.foldl_append]; rfl

theorem r_Sync (d : api_Disk) (hR : RightD d) (hn : d.Synced.length + d.Loose.length ≤ 1000) : ref04_Sync d = some (syncN d) := by
  refine Tot.eq ?_
  unfold ref04_Sync syncN
  refine Tot.ite (fun h => Tot.ret (by rw [if_pos h])) fun h => ?_
  rw [if_neg h]
  unfold ref04_Sync_L1
  refine Tot.bindeq (loop_take (b := d.Loose) (fun n => (d.Loose.take n).foldl layN d.Synced) (d.Loose.foldl layN d.Synced) (fun n x hx => ?_) ?_) (Tot.ret (by rw [lay_laid hR.asc]))
  · have hl := (getR hx).1
    refine Tot.eq ?_
    unfold ref04_Sync_B1
    exact Tot.cond (by simp; omega) (Tot.bindeq (idx_some hx) (Tot.bindeq (p_layT _ _ n x hx hR.asc hn) (Tot.chk (by unfold InI64; dsimp only; omega) (Tot.ret rfl))))
  · unfold ref04_Sync_B1
    rw [if_neg (by simp), List.take_length]; rfl

theorem r_Crash (d : api_Disk) (k : Int) (hR : RightD d) (hn : d.Synced.length + d.Loose.length ≤ 1000) : ref04_Crash d k = some (crashN d k) := by
  refine Tot.eq ?_
  unfold ref04_Crash crashN
  obtain ⟨m, hm⟩ : ∃ m : Nat, m = (min (max k 0) (d.Loose.length : Int)).toNat := ⟨_, rfl⟩
  rw [← hm]
  have hml : m ≤ d.Loose.length := by omega
  refine Tot.bind (R := (· = (d.Loose.take m).foldl layN d.Synced)) ?_ fun v hv => Tot.ret (by rw [hv, lay_laid hR.asc])
  unfold ref04_Crash_L1
  refine Tot.loop (fun s => ∃ n : Nat, s = ((n : Int), (d.Loose.take n).foldl layN d.Synced) ∧ n ≤ m) (fun s => ((m : Int) - s.1).toNat) ?_ _ ⟨0, rfl, Nat.zero_le _⟩
  rintro s ⟨n, rfl, hnm⟩
  unfold ref04_Crash_B1
  refine Tot.bind (R := Tells (n < m)) (Tot.bind (Tot.andI (P := n < d.Loose.length) (Q := (n : Int) < k) (by simp) fun _ => Tot.ret (by unfold Tells; simp)) fun _ h => Tot.ret (Tells.iff h (by omega))) fun v hv => Tot.ite (fun ht => ?_) fun hf => Tot.out (Tot.ret ?_)
  · have hlt := hv.1 ht
    have hx := getLt (l := d.Loose) (n := n) (by omega)
    exact Tot.bindeq (idx_some hx) (Tot.bindeq (p_layT _ _ n _ hx hR.asc hn) (Tot.chk (by unfold InI64; dsimp only; omega) (Tot.inl ⟨⟨n + 1, rfl, hlt⟩, by dsimp only; omega⟩)))
  · have : n = m := by have : ¬ n < m := fun h => hf (hv.2 h)
                       omega
    subst this; rfl

theorem last_at_of {L : List api_Page} {k : Nat} {p : api_Page} {a : Int} (hk : L[k]? = some p) (hp : p.At = a) (h : ∀ (j : Nat) x, k < j → L[j]? = some x → x.At ≠ a) : lastAt L a = some p := by
  have hl := (getR hk).1
  have e : L = L.take k ++ p :: L.drop (k + 1) := by
    have h1 : L[k] = p := by rw [List.getElem?_eq_getElem hl] at hk; exact Option.some.inj hk
    rw [← h1, ← List.drop_eq_getElem_cons hl, List.take_append_drop]
  rw [e, last_append, last_cons, last_none fun x hx => ?_, if_pos hp]
  · rfl
  · obtain ⟨j, hj⟩ := memR hx
    rw [List.getElem?_drop] at hj
    exact h _ x (by omega) hj

theorem r_Read (d : api_Disk) (a : Int) (hR : RightD d) (hn : d.Synced.length + d.Loose.length ≤ 1000) : ref04_Read d a = some (readN d a) := by
  refine Tot.eq ?_
  unfold ref04_Read
  refine Tot.ite (fun h => Tot.ret (by unfold readN; rw [if_pos h])) fun h => ?_
  have hd : d.Down = false := by simpa using h
  rw [readN_eq a hd]
  refine Tot.bind (R := Tells (a < 0 ∨ a > 999)) (Tot.bind (Tot.orI (P := a < 0) (Q := a > 999) (by simp) fun _ => Tot.ret (by unfold Tells; simp)) fun _ h => Tot.ret h) fun v hv => Tot.ite (fun ht => Tot.ret ?_) fun hf => ?_
  · rw [if_neg]; unfold mayN; have := hv.1 ht; omega
  · have hm : mayN a 0 := by
      have : ¬ (a < 0 ∨ a > 999) := fun h => hf (hv.2 h)
      unfold mayN; omega
    rw [if_pos hm, last_append]
    refine Tot.chk (by unfold InI64; omega) ?_
    unfold ref04_Read_L1
    refine Tot.loop (fun s : Int => ∃ k : Nat, s = (k : Int) - 1 ∧ k ≤ d.Loose.length ∧ ∀ (j : Nat) x, k ≤ j → d.Loose[j]? = some x → x.At ≠ a) (fun s => (s + 1).toNat) ?_ _ ⟨d.Loose.length, rfl, Nat.le_refl _, fun j x hj hx => by have := (getR hx).1; omega⟩
    rintro s ⟨k, rfl, hk, hno⟩
    unfold ref04_Read_B1
    refine Tot.ite (fun hge => ?_) fun hlt => Tot.out ?_
    · have hge : (k : Int) - 1 ≥ 0 := by simpa using hge
      obtain ⟨q, rfl⟩ : ∃ q, k = q + 1 := ⟨k - 1, by omega⟩
      have hx := getLt (l := d.Loose) (n := q) (by omega)
      generalize d.Loose[q] = x at hx
      have hi : idx d.Loose (((q + 1 : Nat) : Int) - 1) = some x := by rw [show (((q + 1 : Nat) : Int) - 1) = (q : Int) by omega]; exact idx_some hx
      refine Tot.bindeq hi (Tot.ite (fun he => Tot.bindeq hi (Tot.out (Tot.ret ?_))) fun hne => Tot.chk (by unfold InI64; omega) (Tot.inl ⟨⟨q, by omega, by omega, fun j y hj hy => ?_⟩, by omega⟩))
      · have he : x.At = a := by simpa using he
        rw [last_at_of hx he fun j y hj hy => hno j y (by omega) hy]; rfl
      · rcases Nat.eq_or_lt_of_le hj with rfl | hj
        · rw [hx] at hy; cases hy; simpa using hne
        · exact hno j y (by omega) hy
    · have hk0 : k = 0 := by have : ¬ (k : Int) - 1 ≥ 0 := by simpa using hlt
                             omega
      subst hk0
      have hL : lastAt d.Loose a = none := last_none fun x hx => by obtain ⟨j, hj⟩ := memR hx; exact hno j x (Nat.zero_le _) hj
      rw [hL, Option.none_or]
      unfold ref04_Read_J1 ref04_Read_L2
      refine Tot.search (l := d.Synced) (fun p => p.At = a) (fun n x hx _ => ?_) (fun hall => ?_)
      · have hnl := (getR hx).1
        unfold ref04_Read_B2
        refine Tot.cond (by simp; omega) (Tot.bindeq (idx_some hx) (Tot.ite (fun he => Tot.bindeq (idx_some hx) ?_) fun hne => Tot.chk (by unfold InI64; omega) (Tot.ret (.inr ⟨by simpa using hne, rfl⟩))))
        have he : x.At = a := by simpa using he
        subst he
        exact ⟨_, rfl, .inl ⟨rfl, _, rfl, by rw [(asc_last hR.asc).2 (getR hx).2]⟩⟩
      · unfold ref04_Read_B2 ref04_Read_J2
        refine Tot.ncond (by simp) (Tot.done (Tot.ret ?_))
        rw [last_none hall]

theorem flip_all : ∀ n : Nat, n < 256 → ∀ b : Nat, b < 8 → ref04_flip' 12 (UInt8.ofNat n) (b : Int) = some (UInt8.ofNat n ^^^ toU8 (shlK .u8 1 (b : Int))) := by decide +kernel
theorem r_flip (x : UInt8) (bit : Int) (h : 0 ≤ bit) : ref04_flip x (Int.tmod bit 8) = some (x ^^^ msk bit) := by
  have h1 := flip_all x.toNat (UInt8.toNat_lt x) (bit.toNat % 8) (Nat.mod_lt _ (by decide))
  have e : ((bit.toNat % 8 : Nat) : Int) = Int.tmod bit 8 := by rw [Int.tmod_eq_emod_of_nonneg h]; omega
  rw [UInt8.ofNat_toNat, e] at h1
  exact le_ref04_flip 12 x _ _ h1

def rotP (a bit : Int) (p : api_Page) : api_Page :=
  match p.Data[bit.toNat / 8]? with
  | some x => if p.At = a ∧ 0 ≤ bit ∧ bit < 8 * (p.Data.length : Int) then ⟨p.At, p.Data.set (bit.toNat / 8) (x ^^^ msk bit)⟩ else p
  | none => p
theorem rotP_no {a bit : Int} {p : api_Page} (h : ¬ (p.At = a ∧ 0 ≤ bit ∧ bit < 8 * (p.Data.length : Int))) : rotP a bit p = p := by
  unfold rotP; split
  · exact if_neg h
  · rfl
theorem r_Rot (d : api_Disk) (a bit : Int) (hn : d.Synced.length ≤ 1000) (hd : ∀ p, p ∈ d.Synced → p.Data.length ≤ 1000) : ref04_Rot d a bit = some ⟨d.Synced.map (rotP a bit), d.Loose, d.Down⟩ := by
  refine Tot.eq ?_
  unfold ref04_Rot ref04_Rot_L1
  refine Tot.bindeq (loop_take (b := d.Synced) (fun n => (d.Synced.take n).map (rotP a bit)) (d.Synced.map (rotP a bit)) (fun n x hx => ?_) ?_) (Tot.ret rfl)
  · have hl := (getR hx).1
    have hdx := hd x (getR hx).2
    refine Tot.eq ?_
    unfold ref04_Rot_B1
    refine Tot.cond (by simp; omega) (Tot.bindeq (idx_some hx) (Tot.bindeq (idx_some hx) (Tot.chk (by omega) (Tot.bind (R := fun v => (⟨x.At, v⟩ : api_Page) = rotP a bit x) (Tot.bind (R := Tells (x.At = a ∧ 0 ≤ bit ∧ bit < 8 * (x.Data.length : Int))) ?_ fun v3 h3 => Tot.ite (fun ht => ?_) fun hf => Tot.ret ?_) fun v2 h2 => Tot.chk (by simp; omega) (Tot.chk (by unfold InI64; dsimp only; omega) (Tot.ret ?_))))))
    · refine Tot.bind (Tot.andI (P := x.At = a) (Q := 0 ≤ bit) (by simp) fun _ => Tot.ret (by unfold Tells; simp)) fun c1 h1 => Tot.bind (Tot.andI (Q := bit < 8 * (x.Data.length : Int)) h1 fun _ => Tot.chk (by unfold InI64; omega) (Tot.ret (by unfold Tells; simp))) fun _ h => Tot.ret (Tells.iff h (by rw [and_assoc]))
    · obtain ⟨h1, h2, h4⟩ := h3.1 ht
      have hq := quo8 h2 (by omega)
      have hj : bit.toNat / 8 < x.Data.length := by omega
      have hy := getLt hj
      rw [hq]
      refine Tot.bindeq (idx_some hy) (Tot.bindeq (r_flip _ _ h2) (Tot.bindeq (idx_some hy) (Tot.ret ?_)))
      unfold rotP
      rw [hy]; dsimp only; rw [if_pos ⟨h1, h2, h4⟩]; rfl
    · rw [rotP_no fun h => hf (h3.2 h)]
    · rw [← take_app hx, List.map_append, List.map_singleton, ← h2]
  · unfold ref04_Rot_B1
    rw [if_neg (by simp), List.take_length]; rfl
theorem d_Rot (d : api_Disk) (a bit : Int) (hn : d.Synced.length ≤ 1000) (hd : ∀ p, p ∈ d.Synced → p.Data.length ≤ 1000) (hA : Asc d.Synced) : disk_Rot d a bit = some ⟨d.Synced.map (rotP a bit), d.Loose, d.Down⟩ := by
  by_cases h : ∃ l1 p l2, d.Synced = l1 ++ p :: l2 ∧ p.At = a ∧ (∀ x, x ∈ l1 → x.At ≠ a) ∧ 0 ≤ bit ∧ bit < 8 * (p.Data.length : Int)
  · obtain ⟨l1, p, l2, hS, hp, hl, h0, h1⟩ := h
    obtain ⟨S, L, D⟩ := d
    dsimp only at hS hn hd hA ⊢
    subst hS
    have hdp := hd p (by simp)
    have hx := getLt (l := p.Data) (n := bit.toNat / 8) (by omega)
    rw [rot_ok hp hl hn hdp h0 h1 hx]
    have h2 : ∀ x, x ∈ l2 → x.At ≠ a := fun x hx => by
      have := (List.pairwise_cons.1 (List.pairwise_append.1 hA).2.1).1 x hx; omega
    have m1 : l1.map (rotP a bit) = l1 := (List.map_congr_left (g := id) fun x hx => rotP_no fun e => hl x hx e.1).trans (List.map_id _)
    have m2 : l2.map (rotP a bit) = l2 := (List.map_congr_left (g := id) fun x hx => rotP_no fun e => h2 x hx e.1).trans (List.map_id _)
    rw [List.map_append, List.map_cons, m1, m2]
    congr 4
    unfold rotP
    rw [hx]; dsimp only; rw [if_pos ⟨hp, h0, h1⟩]
  · rw [rot_no hn hd fun l1 p l2 e1 e2 e3 e4 => h ⟨l1, p, l2, e1, e2, e3, e4.1, e4.2⟩]
    have e : d.Synced.map (rotP a bit) = d.Synced := by
      have : d.Synced.map (rotP a bit) = d.Synced.map id := List.map_congr_left fun p hp => rotP_no fun e => by
        obtain ⟨l1, l2, hS⟩ := List.append_of_mem hp
        refine h ⟨l1, p, l2, hS, e.1, fun x hx => ?_, e.2⟩
        rw [hS] at hA
        have := (List.pairwise_append.1 hA).2.2 x hx p (by simp); omega
      rw [this, List.map_id]
    rw [e]
theorem rotP_at (a bit : Int) (p : api_Page) : (rotP a bit p).At = p.At ∧ (rotP a bit p).Data.length = p.Data.length := by
  unfold rotP; split
  · split
    · exact ⟨rfl, by simp⟩
    · exact ⟨rfl, rfl⟩
  · exact ⟨rfl, rfl⟩

theorem r_Write (d : api_Disk) (a : Int) (x : List UInt8) (hn : d.Loose.length ≤ 1000) : ref04_Write d a x = some (writeN d a x) := by
  refine Tot.eq ?_
  unfold ref04_Write writeN
  refine Tot.ite (fun h => Tot.ret (by rw [if_pos h])) fun h => ?_
  rw [if_neg h]
  refine Tot.bind (p_Page ⟨a, x⟩) fun b hb => Tot.ite (fun ht => Tot.ret ?_) fun hf => Tot.chk (by omega) (Tot.chk (by simp; omega) (Tot.ret ?_))
  · rw [if_neg fun hm => by have := hb.2 hm; subst this; simp at ht]
  · have hm : mayN a x.length := hb.1 (by simpa using hf)
    rw [if_pos hm]
    have : d.Down = false := by simpa using h
    rw [this]

def sizeD (d : api_Disk) : Nat := d.Synced.length + d.Loose.length
theorem RightD.few {d : api_Disk} (h : RightD d) (hn : sizeD d ≤ 500) : Few d 500 := ⟨by unfold sizeD at hn; omega, by unfold sizeD at hn; omega, h.gs, h.gl⟩
theorem right_laid {d : api_Disk} {L : List api_Page} {b : Bool} (h : RightD d) (hL : GoodL L) : RightD ⟨laidN d.Synced L, [], b⟩ :=
  ⟨laid_good (good_app h.gs hL), fun p hp => (by cases hp), fun _ => rfl, laid_asc _ _⟩

theorem step_both (d : api_Disk) (x : law04_Act) (hR : RightD d) (hn : sizeD d ≤ 400) : ∃ r, law04_step d x = some r ∧ law04_told d x = some r ∧ RightD r.1 ∧ sizeD r.1 ≤ sizeD d + 1 := by
  have hf := hR.few (by omega)
  have hs : d.Synced.length + d.Loose.length ≤ 400 := hn
  unfold law04_step law04_told
  by_cases h0 : x.Do = 0
  · have e : (x.Do == 0) = true := by simpa using h0
    simp only [e, if_true]
    clear e
    refine ⟨writeN d x.At x.Data, ?_, ?_, ?_⟩
    · rw [p_Write2 _ _ _ (by omega)]; rfl
    · rw [r_Write _ _ _ (by omega)]; rfl
    · unfold writeN
      split
      · exact ⟨hR, Nat.le_succ _⟩
      · rename_i hd
        split
        · rename_i hm
          refine ⟨⟨hR.gs, good_app hR.gl fun p hp => ?_, fun h => absurd h hd, hR.asc⟩, ?_⟩
          · rw [List.mem_singleton.1 hp]; exact hm
          · unfold sizeD; simp; omega
        · exact ⟨hR, Nat.le_succ _⟩
  have e0 : (x.Do == 0) = false := by simpa using h0
  simp only [e0, Bool.false_eq_true, if_false]
  by_cases h1 : x.Do = 1
  · have e : (x.Do == 1) = true := by simpa using h1
    simp only [e, if_true]
    clear e
    refine ⟨syncN d, ?_, ?_, ?_⟩
    · rw [p_Sync _ hf]; rfl
    · rw [r_Sync _ hR (by omega)]; rfl
    · unfold syncN
      split
      · exact ⟨hR, Nat.le_succ _⟩
      · exact ⟨right_laid hR hR.gl, by have := laid_len d.Synced d.Loose; unfold sizeD; simp; omega⟩
  have e1 : (x.Do == 1) = false := by simpa using h1
  simp only [e1, Bool.false_eq_true, if_false]
  by_cases h2 : x.Do = 2
  · have e : (x.Do == 2) = true := by simpa using h2
    simp only [e, if_true]
    clear e
    refine ⟨(crashN d x.N, 0), ?_, ?_, ?_⟩
    · rw [p_Crash _ _ hf]; rfl
    · rw [r_Crash _ _ hR (by omega)]; rfl
    · refine ⟨right_laid hR fun p hp => hR.gl p (List.mem_of_mem_take hp), ?_⟩
      have := laid_len d.Synced (d.Loose.take (min (max x.N 0) (d.Loose.length : Int)).toNat)
      simp only [List.length_take] at this
      show (laidN _ _).length + 0 ≤ d.Synced.length + d.Loose.length + 1
      omega
  have e2 : (x.Do == 2) = false := by simpa using h2
  simp only [e2, Bool.false_eq_true, if_false]
  by_cases h3 : x.Do = 3
  · have e : (x.Do == 3) = true := by simpa using h3
    simp only [e, if_true]
    clear e
    refine ⟨(⟨d.Synced, d.Loose, false⟩, 0), ?_, ?_, ?_⟩
    · rfl
    · rfl
    · exact ⟨⟨hR.gs, hR.gl, fun h => (by cases h), hR.asc⟩, Nat.le_succ _⟩
  have e3 : (x.Do == 3) = false := by simpa using h3
  simp only [e3, Bool.false_eq_true, if_false]
  by_cases h4 : x.Do = 4
  · have e : (x.Do == 4) = true := by simpa using h4
    simp only [e, if_true]
    clear e
    have hd : ∀ p, p ∈ d.Synced → p.Data.length ≤ 1000 := fun p hp => by have := (hR.gs p hp).2; omega
    refine ⟨(⟨d.Synced.map (rotP x.At x.N), d.Loose, d.Down⟩, 0), ?_, ?_, ?_⟩
    · rw [d_Rot _ _ _ (by omega) hd hR.asc]; rfl
    · rw [r_Rot _ _ _ (by omega) hd]; rfl
    · refine ⟨⟨fun p hp => ?_, hR.gl, hR.dn, ?_⟩, by unfold sizeD; simp⟩
      · obtain ⟨q, hq, rfl⟩ := List.mem_map.1 hp
        have := rotP_at x.At x.N q
        have h5 := hR.gs q hq
        unfold goodP at h5 ⊢
        rw [this.1, this.2]; exact h5
      · show Asc (d.Synced.map _)
        exact List.pairwise_map.2 (hR.asc.imp fun {p q} h => by rw [(rotP_at _ _ p).1, (rotP_at _ _ q).1]; exact h)
  have e4 : (x.Do == 4) = false := by simpa using h4
  simp only [e4, Bool.false_eq_true, if_false]
  exact ⟨(d, 0), rfl, rfl, hR, Nat.le_succ _⟩

theorem l0_DiskTells (p_d : api_Disk) (p_l : List law04_Act) (p_at : Int) (h1 : p_d.Synced.length ≤ 9223372036854775807) (h2 : p_d.Loose.length ≤ 9223372036854775807) : law04_DiskTells p_d p_l p_at = some true := by
  refine Tot.eq ?_
  unfold law04_DiskTells
  refine Tot.bindeq p_head04 (Tot.bind (t_dRight p_d h1 h2) fun x2 hx2 => Tot.bind (t_fits3 p_d) fun x3 hx3 => Tot.bind (R := Tells (x3 = false ∨ p_l.length > 60)) (Tot.bind (Tot.orI (P := x3 = false) (Q := p_l.length > 60) (by simp) fun _ => Tot.ret (by unfold Tells; simp; omega)) fun _ h => Tot.ret h) fun v1 hv1 => Tot.ite (fun ht => ?_) fun hf => ?_)
  · refine Tot.bind (R := (· = true)) (Tot.bind (R := (· = true)) (Tot.cond rfl ?_) fun _ h => Tot.ret h) fun _ h => Tot.ret h
    refine Tot.bind (Tot.orI (P := p_d.Synced.length > 60) (Q := p_d.Loose.length > 60) (by simp; omega) fun _ => Tot.ret (by unfold Tells; simp; omega)) fun _ h => Tot.bind (Tot.orI (Q := p_l.length > 60) h fun _ => Tot.ret (by unfold Tells; simp; omega)) fun _ h => Tot.bind (Tot.orI (Q := x2 = x3) h fun _ => Tot.ret (by unfold Tells; simp)) fun v hv => Tot.ret (hv.2 ?_)
    by_cases hb : (p_d.Synced.length > 60 ∨ p_d.Loose.length > 60) ∨ p_l.length > 60
    · exact .inl hb
    · refine .inr (Tells.eq hx2 hx3 ⟨fun h => ⟨by omega, by omega, h⟩, fun h => h.2.2⟩)
  · have hx : x3 = true ∧ p_l.length ≤ 60 := by
      have : ¬ (x3 = false ∨ p_l.length > 60) := fun h => hf (hv1.2 h)
      refine ⟨?_, by omega⟩
      cases x3 with
      | true => rfl
      | false => exact absurd (.inl rfl) this
    obtain ⟨g1, g2, g3⟩ := hx3.1 hx.1
    have ho : law04_own p_d = some p_d := p_own p_d (by omega) (by omega) fun p hp => by have := (good_app g3.gs g3.gl p hp).2; omega
    refine Tot.bindeq ho (Tot.bindeq ho ?_)
    have hr2 : x2 = true := hx2.2 g3
    unfold law04_DiskTells_L1
    refine Tot.loop (fun s => ∃ (n : Nat) (d : api_Disk), s = ((n : Int), d.Synced, d.Loose, d.Down, d.Synced, d.Loose, d.Down) ∧ n ≤ p_l.length ∧ RightD d ∧ sizeD d ≤ 120 + n) (fun s => ((p_l.length : Int) - s.1).toNat) ?_ _ ⟨0, p_d, rfl, Nat.zero_le _, g3, by unfold sizeD; omega⟩
    rintro s ⟨n, d, rfl, hn, hR, hz⟩
    unfold law04_DiskTells_B1
    refine Tot.ite (fun hlt => ?_) fun hge => Tot.out ?_
    · have hlt : n < p_l.length := by simpa using hlt
      have hxx := getLt hlt
      generalize p_l[n] = x at hxx
      have hz' : d.Synced.length + d.Loose.length ≤ 120 + n := hz
      have hod : law04_own d = some d := p_own d (by omega) (by omega) fun p hp => by have := (good_app hR.gs hR.gl p hp).2; omega
      obtain ⟨⟨d', e⟩, hs1, hs2, hR', hz2⟩ := step_both d x hR (by omega)
      dsimp only at hR' hz2
      have hz3 : d'.Synced.length + d'.Loose.length ≤ sizeD d + 1 := hz2
      have hsm := (hR.few (by omega)).small
      have hsm' := (hR'.few (by omega)).small
      refine Tot.bindeq hod (Tot.bindeq (idx_some hxx) (Tot.bindeq hs1 (Tot.bindeq (idx_some hxx) (Tot.bindeq hs2 (Tot.bindeq (same04 hsm' rfl) (Tot.bindeq (same04 hsm rfl) (Tot.bind (R := (· = false)) ?_ fun v4 h4 => ?_)))))))
      · refine Tot.bind (R := (· = false)) (Tot.ncond (by decide) (Tot.ret rfl)) fun c6 h6 => ?_
        subst h6
        refine Tot.bind (R := (· = false)) (Tot.ncond (by decide) (Tot.ret (by simp))) fun c7 h7 => ?_
        subst h7
        exact Tot.bind (R := (· = false)) (Tot.ncond (by decide) (Tot.bind (t_dRight d' (by omega) (by omega)) fun b hb => Tot.ret (by rw [hb.2 hR']; rfl))) fun _ h => Tot.ret h
      · subst h4
        refine Tot.ncond (by decide) (Tot.bindeq (p_Read _ _ hsm') (Tot.bindeq (r_Read _ _ hR' (by show d'.Synced.length + d'.Loose.length ≤ 1000; omega)) (Tot.bindeq (bytes_t (by show (readN d' p_at).1.length ≤ 1000000; have := readN_len hsm' p_at; omega) rfl) (Tot.bind (R := (· = false)) (Tot.bind (R := (· = false)) (Tot.ncond (by decide) (Tot.ret (by simp))) fun _ h => Tot.ret h) fun v5 h5 => ?_))))
        subst h5
        exact Tot.ncond (by decide) (Tot.chk (by unfold InI64; dsimp only; omega) (Tot.inl ⟨⟨n + 1, d', rfl, hlt, hR', by omega⟩, by dsimp only; omega⟩))
    · unfold law04_DiskTells_J1
      subst hr2
      exact Tot.ret rfl
theorem l_DiskTells (p_d : api_Disk) (p_l : List law04_Act) (p_at : Int) (h0 : ok_api_Disk p_d) (h1 : okL_c_law04_Act p_l) (h2 : ok_i64 p_at) : law04_DiskTells p_d p_l p_at = some true :=
  l0_DiskTells p_d p_l p_at h0.1.1 h0.2.1.1
end Go.Proofs
