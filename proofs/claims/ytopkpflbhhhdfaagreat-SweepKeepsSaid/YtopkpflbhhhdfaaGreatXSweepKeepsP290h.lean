/- Sweeping, plain: what is gone, one server swept. No condition. -/
import Derived.Test.YtopkpflbhhhdfaaGreatXSweepKeepsP290g
namespace Go.Proofs
set_option linter.all false
open Go Go.Cat
set_option linter.all false

/-! What is gone. -/
def lostIds (K : List Int) (d : api_Disk) : List Int := (hasN d).filter fun x => decide (x ∉ K)
def goneIds (disks : List api_Disk) (K : List Int) : List Int := disks.flatMap (lostIds K)
theorem lost_len (K : List Int) (d : api_Disk) : (lostIds K d).length ≤ 200 := Nat.le_trans (List.length_filter_le _ _) (hasN_len d)
theorem gone_len (K : List Int) : ∀ disks : List api_Disk, (goneIds disks K).length ≤ 200 * disks.length
  | [] => by simp [goneIds]
  | d :: ds => by
    have := gone_len K ds
    have := lost_len K d
    unfold goneIds at *
    rw [List.flatMap_cons, List.length_append, List.length_cons]; omega
theorem in64_has {d : api_Disk} {x : Int} (h : x ∈ hasN d) : InI64 x := by
  have := (hasN_mem.1 h).1
  unfold withinP at this; unfold InI64; omega
theorem mem_gone {disks : List api_Disk} {K : List Int} {x : Int} : x ∈ goneIds disks K ↔ x ∉ K ∧ ∃ d, d ∈ disks ∧ x ∈ hasN d := by
  unfold goneIds lostIds
  rw [List.mem_flatMap]
  constructor
  · rintro ⟨d, hd, hx⟩
    obtain ⟨h1, h2⟩ := List.mem_filter.1 hx
    exact ⟨of_decide_eq_true h2, d, hd, h1⟩
  · rintro ⟨h, d, hd, hx⟩
    exact ⟨d, hd, List.mem_filter.2 ⟨hx, decide_eq_true h⟩⟩
theorem fold_gone (K : List Int) : ∀ (disks : List api_Disk) (m : List (Int × Bool)), disks.foldl (fun m d => setM (lostIds K d) m) m = setM (goneIds disks K) m
  | [], m => rfl
  | d :: ds, m => by
    show ds.foldl _ (setM (lostIds K d) m) = _
    rw [fold_gone K ds]
    unfold goneIds
    rw [List.flatMap_cons, setM_app]
theorem p_GoneIn (d : api_Disk) (K : List Int) (m : List (Int × Bool)) (hm : m.length ≤ 1000000) : loop (sweep_Gone_B2 (hasN d) (setM K [])) (0, m) = some (setM (lostIds K d) m) := by
  have hl := hasN_len d
  have h := loop_eachN (b := hasN d) (B := sweep_Gone_B2 (hasN d) (setM K [])) (fun m x => if decide (x ∉ K) = true then mset x true m else m) (fun n m' => m'.length ≤ m.length + n) id (fun m n x hm hx hlt => ⟨by
    refine Tot.eq ?_
    unfold sweep_Gone_B2
    refine Tot.cond (by simp; omega) (Tot.bind (R := (· = if decide (x ∉ K) = true then mset x true m else m)) (Tot.bindeq (idx_some hx) (Tot.bindeq (a := decide (x ∈ K)) (by rw [has_setM]) (Tot.ite (fun h => ?_) fun h => ?_))) fun v hv => Tot.chk (by unfold InI64; dsimp only; omega) (Tot.ret (by rw [hv])))
    · rw [if_pos (by simpa using h)]; exact Tot.chk ⟨in64_has (List.mem_of_getElem? hx), by dsimp only; omega⟩ (Tot.ret rfl)
    · rw [if_neg (by simpa using h)]; exact Tot.ret rfl, by have := mset_len x true m; split <;> omega⟩) (fun m hm => by
    unfold sweep_Gone_B2
    rw [if_neg (by simp)]; rfl) m (Nat.le_refl _)
  refine h.1.trans ?_
  unfold setM lostIds
  rw [List.foldl_filter]; rfl
theorem p_Gone {named : List api_Named} {rooms : List api_Room} {leases : List api_Lease} {now : Int} {disks : List api_Disk} (hn : named.length ≤ 1000) (hr : rooms.length ≤ 1000) (hl : leases.length ≤ 1000) (okn : ∀ n, n ∈ named → InI64 n.Id) (okr : ∀ r, r ∈ rooms → InI64 r.Id) (hd : disks.length ≤ 1000) (okd : ∀ d, d ∈ disks → smallD d) :
    sweep_Gone named rooms leases now disks = some (sortU (goneIds disks (keepIds named rooms leases now))) := by
  refine Tot.eq ?_
  unfold sweep_Gone sweep_Gone_L1
  refine Tot.bindeq (a := ()) rfl (Tot.bindeq (p_kept hn hr hl okn okr) ?_)
  generalize keepIds named rooms leases now = K
  have h := loop_eachN (b := disks) (B := sweep_Gone_B1 disks (setM K [])) (fun m d => setM (lostIds K d) m) (fun n m => m.length ≤ 200 * n) id (fun m n d hm hx hlt => ⟨by
    refine Tot.eq ?_
    unfold sweep_Gone_B1
    exact Tot.cond (by simp; omega) (Tot.bindeq (a := setM (lostIds K d) m) (by rw [idx_some hx, Option.bind_some, p_Has d (okd d (List.mem_of_getElem? hx)), Option.bind_some]; exact p_GoneIn d K m (by omega)) (Tot.chk (by unfold InI64; dsimp only; omega) (Tot.ret rfl))), by
    have := setM_len (lostIds K d) m
    have := lost_len K d
    omega⟩) (fun m hm => by
    unfold sweep_Gone_B1
    rw [if_neg (by simp)]; rfl) [] (Nat.zero_le _)
  have e1 : loop (sweep_Gone_B1 disks (setM K [])) (0, []) = some (setM (goneIds disks K) []) := h.1.trans (by rw [fold_gone]; rfl)
  refine Tot.bindeq e1 (Tot.chk ?_ (Tot.ret rfl))
  have := setM_len (goneIds disks K) []
  have := gone_len K disks
  simp at *; omega

/-! One server. -/
def dropIds (d : api_Disk) (G : List Int) : List Int := (hasN d).filter fun x => decide (x ∈ G)
def pgN (x : Int) : api_Page := ⟨x, []⟩
def dropN (d : api_Disk) (G : List Int) : api_Disk := if dropIds d G = [] then d else ⟨laidN d.Synced (d.Loose ++ (dropIds d G).map pgN), [], false⟩
theorem there_others (S : List api_Page) (w : Bool) (o : Int) : ∀ (ids : List Int) (L : List api_Page), o ∉ ids → thereN ⟨S, L ++ ids.map pgN, w⟩ o = thereN ⟨S, L, w⟩ o
  | [], L, _ => by simp
  | a :: ids, L, h => by
    have e : L ++ (a :: ids).map pgN = (L ++ [⟨a, []⟩]) ++ ids.map pgN := by simp [pgN]
    rw [e, there_others S w o ids _ (fun hm => h (List.mem_cons_of_mem _ hm)), there_other (fun e => h (by rw [e]; exact List.mem_cons_self ..))]
theorem read_others (S : List api_Page) (w : Bool) (o : Int) : ∀ (ids : List Int) (L : List api_Page), o ∉ ids → readN ⟨S, L ++ ids.map pgN, w⟩ o = readN ⟨S, L, w⟩ o
  | [], L, _ => by simp
  | a :: ids, L, h => by
    have e : L ++ (a :: ids).map pgN = (L ++ [⟨a, []⟩]) ++ ids.map pgN := by simp [pgN]
    rw [e, read_others S w o ids _ (fun hm => h (List.mem_cons_of_mem _ hm)), read_add_other (fun e => h (by rw [e]; exact List.mem_cons_self ..))]
theorem read_dropped (S : List api_Page) (o : Int) (ho : mayN o 0) : ∀ (ids : List Int) (L : List api_Page), o ∈ ids → readN ⟨S, L ++ ids.map pgN, false⟩ o = ([], 0)
  | [], L, h => by simp at h
  | a :: ids, L, h => by
    have e : L ++ (a :: ids).map pgN = (L ++ [⟨a, []⟩]) ++ ids.map pgN := by simp [pgN]
    rw [e]
    by_cases hm : o ∈ ids
    · exact read_dropped S o ho ids _ hm
    · rw [read_others S false o ids _ hm]
      have : o = a := (List.mem_cons.1 h).resolve_right hm
      subst this
      exact read_add_same (by decide) ho
theorem has_up {d : api_Disk} {x : Int} (h : x ∈ hasN d) : d.Down = false := by
  have h := hasN_mem.1 h
  cases hd : d.Down with
  | false => rfl
  | true => rw [there_down hd h.1] at h; exact absurd h.2 (by decide)
theorem mem_drop {d : api_Disk} {G : List Int} {x : Int} : x ∈ dropIds d G ↔ x ∈ hasN d ∧ x ∈ G := by
  unfold dropIds
  rw [List.mem_filter, decide_eq_true_iff]
theorem drop_up {d : api_Disk} {G : List Int} (h : dropIds d G ≠ []) : d.Down = false := by
  obtain ⟨x, hx⟩ := List.exists_mem_of_ne_nil _ h
  exact has_up (mem_drop.1 hx).1
theorem may_has {d : api_Disk} {x : Int} (h : x ∈ hasN d) : mayN x 0 := by
  have h := (hasN_mem.1 h).1
  unfold withinP at h
  exact ⟨⟨h.1, by omega⟩, Nat.zero_le _⟩
theorem there_drop (d : api_Disk) (G : List Int) (x : Int) : thereN (dropN d G) x = if x ∈ dropIds d G then ([], 41) else thereN d x := by
  unfold dropN
  by_cases h0 : dropIds d G = []
  · rw [if_pos h0, if_neg (by rw [h0]; simp)]
  · rw [if_neg h0, there_laid]
    by_cases hx : x ∈ dropIds d G
    · rw [if_pos hx]
      have hh := (mem_drop.1 hx).1
      unfold thereN
      rw [if_pos (hasN_mem.1 hh).1, read_dropped _ _ (may_has hh) _ _ hx, if_pos ⟨rfl, rfl⟩]
    · rw [if_neg hx, there_others _ _ _ _ _ hx]
      have hd := drop_up h0
      obtain ⟨S, L, w⟩ := d
      dsimp only at hd
      subst hd; rfl
theorem drop_len (d : api_Disk) (G : List Int) : (dropIds d G).length ≤ 200 := Nat.le_trans (List.length_filter_le _ _) (hasN_len d)
/-- A server with not too much. -/
structure OkS (d : api_Disk) (n : Nat) : Prop where
  s : d.Synced.length ≤ n
  l : d.Loose.length ≤ 60
  x : ∀ p, p ∈ d.Synced ++ d.Loose → p.Data.length ≤ 1000 ∧ InI64 p.At
theorem OkS.small {d : api_Disk} {n : Nat} (h : OkS d n) (hn : n ≤ 1000) : smallD d := ⟨by have := h.s; omega, by have := h.l; omega, fun p hp => (h.x p hp).1⟩
theorem OkS.of {d : api_Disk} (h : OkD d 60) : OkS d 60 := ⟨h.s, h.l, h.x⟩
theorem OkS.mono {d : api_Disk} {n m : Nat} (h : OkS d n) (e : n ≤ m) : OkS d m := ⟨by have := h.s; omega, h.l, h.x⟩
theorem pgs_x {S L : List api_Page} (ids : List Int) (h : ∀ p, p ∈ S ++ L → p.Data.length ≤ 1000 ∧ InI64 p.At) (hi : ∀ x, x ∈ ids → InI64 x) : ∀ p, p ∈ S ++ (L ++ ids.map pgN) → p.Data.length ≤ 1000 ∧ InI64 p.At := fun p hp => by
  have hp : p ∈ S ∨ p ∈ L ∨ p ∈ ids.map pgN := by simpa [List.mem_append, or_assoc] using hp
  rcases hp with hp | hp | hp
  · exact h p (List.mem_append_left _ hp)
  · exact h p (List.mem_append_right _ hp)
  · obtain ⟨x, hx, rfl⟩ := List.mem_map.1 hp
    exact ⟨Nat.zero_le _, hi x hx⟩
theorem OkS.pgs {S L : List api_Page} {b : Bool} {n : Nat} (ids : List Int) (h : OkS ⟨S, L, b⟩ n) (hn : n ≤ 1000) (hi : ∀ x, x ∈ ids → InI64 x) (hl : ids.length ≤ 200) : smallD ⟨S, L ++ ids.map pgN, b⟩ :=
  ⟨by have := h.s; dsimp only at *; omega, by have := h.l; dsimp only at *; simp; omega, fun p hp => (pgs_x ids h.x hi p hp).1⟩
theorem in64_drop {d : api_Disk} {G : List Int} {x : Int} (h : x ∈ dropIds d G) : InI64 x := in64_has (mem_drop.1 h).1
theorem ok_drop {d : api_Disk} {n : Nat} (h : OkS d n) (G : List Int) : OkS (dropN d G) (n + 260) := by
  unfold dropN
  split
  · exact h.mono (by omega)
  · have h1 := drop_len d G
    have h2 := h.s
    have h3 := h.l
    exact ⟨Nat.le_trans (laid_len _ _) (by simp; omega), Nat.zero_le _, fun p hp => laid_all (pgs_x _ h.x fun x hx => in64_drop hx) p (by simpa using hp)⟩

theorem p_sweptIn (d : api_Disk) (G : List Int) (hd : OkS d 700) : loop (sweep_swept_B1 (hasN d) (setM G [])) (false, 0, d.Synced, d.Loose, d.Down) = some (decide (dropIds d G ≠ []), d.Synced, d.Loose ++ (dropIds d G).map pgN, d.Down) := by
  refine Tot.eq (Tot.loop (fun s => ∃ n : Nat, n ≤ (hasN d).length ∧ s = (decide (((hasN d).take n).filter (fun x => decide (x ∈ G)) ≠ []), (n : Int), d.Synced, d.Loose ++ (((hasN d).take n).filter (fun x => decide (x ∈ G))).map pgN, d.Down)) (fun s => (((hasN d).length : Int) - s.2.1).toNat) ?_ _ ⟨0, Nat.zero_le _, by simp⟩)
  rintro s ⟨n, hn, rfl⟩
  have hl := hasN_len d
  unfold sweep_swept_B1
  refine Tot.ite (fun hlt => ?_) fun hge => Tot.out (Tot.ret ?_)
  · have hlt : n < (hasN d).length := by simpa using hlt
    have hx : (hasN d)[n]? = some (hasN d)[n] := List.getElem?_eq_getElem hlt
    generalize (hasN d)[n] = x at hx
    have hm := List.mem_of_getElem? hx
    obtain ⟨I, hI⟩ : ∃ I, I = ((hasN d).take n).filter (fun x => decide (x ∈ G)) := ⟨_, rfl⟩
    have hIm : ∀ y, y ∈ I → y ∈ hasN d := fun y hy => by rw [hI] at hy; exact List.mem_of_mem_take (List.mem_filter.1 hy).1
    have hIl : I.length ≤ 200 := by
      have := List.length_filter_le (fun x => decide (x ∈ G)) ((hasN d).take n)
      have := List.length_take_le n (hasN d)
      rw [hI]; omega
    have hxI : x ∉ I := fun h => by rw [hI] at h; exact not_before (hasN_sorted d) hx (List.mem_filter.1 h).1
    rw [← hI]
    refine Tot.bind (R := (· = (decide (((hasN d).take (n + 1)).filter (fun x => decide (x ∈ G)) ≠ []), d.Synced, d.Loose ++ (((hasN d).take (n + 1)).filter (fun x => decide (x ∈ G))).map pgN, d.Down))) ?_ fun v hv => Tot.chk (by unfold InI64; dsimp only; omega) (Tot.inl ⟨⟨n + 1, hlt, by rw [hv]; rfl⟩, by dsimp only; omega⟩)
    refine Tot.bindeq (idx_some hx) (Tot.bindeq (a := decide (x ∈ G)) (by rw [has_setM]) ?_)
    rw [take_next hx, List.filter_append, ← hI]
    refine Tot.ite (fun hg => ?_) fun hg => Tot.ret ?_
    · have hsm : smallD ⟨d.Synced, d.Loose ++ I.map pgN, d.Down⟩ := OkS.pgs I (b := d.Down) ⟨hd.s, hd.l, hd.x⟩ (by omega) (fun y hy => in64_has (hIm y hy)) hIl
      refine Tot.bindeq (p_Lose _ x hsm) ?_
      have ht : thereN ⟨d.Synced, d.Loose ++ I.map pgN, d.Down⟩ x = thereN d x := there_others _ _ _ _ _ hxI
      have hup := has_up hm
      unfold loseN writeN
      rw [ht, if_pos (hasN_mem.1 hm).2, if_neg (by rw [hup]; decide), if_pos (show mayN x ([] : List UInt8).length from may_has hm)]
      have e : [x].filter (fun x => decide (x ∈ G)) = [x] := by simp [of_decide_eq_true hg]
      rw [e]
      refine Tot.ret ?_
      simp [pgN]
    · have e : [x].filter (fun x => decide (x ∈ G)) = [] := by
        have : x ∉ G := by simpa using hg
        simp [this]
      rw [e, List.append_nil]
  · have : n = (hasN d).length := by have : ¬ n < (hasN d).length := by simpa using hge
                                     omega
    subst this
    rw [List.take_length]; rfl
theorem p_swept (d : api_Disk) (G : List Int) (hd : OkS d 700) : sweep_swept d (setM G []) = some ((dropN d G).Synced, (dropN d G).Loose, (dropN d G).Down) := by
  refine Tot.eq ?_
  unfold sweep_swept sweep_swept_L1 dropN
  refine Tot.bindeq (a := (decide (dropIds d G ≠ []), d.Synced, d.Loose ++ (dropIds d G).map pgN, d.Down)) (by rw [p_Has d (hd.small (by omega))]; exact p_sweptIn d G hd) ?_
  by_cases h0 : dropIds d G = []
  · rw [if_pos h0]
    refine Tot.bindeq (a := (d.Synced, d.Loose, d.Down)) ?_ (Tot.ret rfl)
    rw [h0]; simp
  · rw [if_neg h0]
    have hup := drop_up h0
    obtain ⟨S, L, w⟩ := d
    dsimp only at hup
    subst hup
    refine Tot.bindeq (a := (laidN S (L ++ (dropIds ⟨S, L, false⟩ G).map pgN), [], false)) ?_ (Tot.ret rfl)
    rw [if_pos (by simpa using h0)]
    dsimp only
    have h1 := drop_len ⟨S, L, false⟩ G
    have h2 := hd.s
    have h3 := hd.l
    unfold disk_Sync
    rw [if_neg Bool.false_ne_true, p_laid _ _ (by dsimp only at *; simp; omega) (fun p hp => (pgs_x _ hd.x (fun x hx => in64_drop hx) p hp).2)]; rfl
end Go.Proofs
