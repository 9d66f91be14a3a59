/- Sweeping, plain: the document's sweep. No condition. -/
import Derived.Test.YtopkpflbhhhdfaaGreatXSweepTellsP290k
namespace Go.Proofs
set_option linter.all false
open Go Go.Cat
set_option linter.all false

theorem loop_takeF {β ρ σ : Type} {b : List β} {B : σ × Int → Option ((σ × Int) ⊕ ρ)} (st : Nat → σ) (fin : ρ)
    (h1 : ∀ (n : Nat) (x : β), b[n]? = some x → B (st n, (n : Int)) = some (.inl (st (n + 1), (n : Int) + 1))) (h2 : B (st b.length, (b.length : Int)) = some (.inr fin)) : Cat.loop B (st 0, 0) = some fin := by
  refine Tot.eq (Tot.loop (fun s => ∃ n : Nat, s = (st n, (n : Int)) ∧ n ≤ b.length) (fun s => ((b.length : Int) - s.2).toNat) ?_ _ ⟨0, rfl, Nat.zero_le _⟩)
  rintro s ⟨n, rfl, hn⟩
  rcases Nat.lt_or_ge n b.length with h | h
  · exact ⟨_, h1 n _ (getLt h), ⟨n + 1, rfl, h⟩, by dsimp only; omega⟩
  · obtain rfl : n = b.length := by omega
    exact ⟨_, h2, rfl⟩
theorem sorted_idx' {l : List Int} (h : l.Pairwise (· < ·)) {i j : Nat} {x y : Int} (hx : l[i]? = some x) (hy : l[j]? = some y) (hij : i < j) : x < y := by
  obtain ⟨hi, ex⟩ := List.getElem?_eq_some_iff.1 hx
  obtain ⟨hj, ey⟩ := List.getElem?_eq_some_iff.1 hy
  have := List.pairwise_iff_getElem.1 h i j hi hj hij
  rw [ex, ey] at this; exact this
theorem sortU_nil' : sortU [] = [] := sorted_ext (sortU_sorted _) List.Pairwise.nil fun x => by rw [mem_sortU]
theorem r_put (ids : List Int) (x : Int) (h : ids.length ≤ 1000000) : ref29_put (sortU ids) x = some (sortU (ids ++ [x])) := by
  have hl := sortU_len ids
  have hs := sortU_sorted ids
  have hm : ∀ i, i ∈ sortU ids ↔ i ∈ ids := fun i => mem_sortU
  generalize sortU ids = l at hl hs hm
  refine Tot.eq ?_
  unfold ref29_put ref29_put_L1
  refine Tot.bind (R := fun v : Int => ∃ n : Nat, v = n ∧ n ≤ l.length ∧ (∀ j y, j < n → l[j]? = some y → y < x) ∧ ∀ y, l[n]? = some y → ¬ y < x) (Tot.loop (fun s : Int => ∃ n : Nat, s = n ∧ n ≤ l.length ∧ ∀ j y, j < n → l[j]? = some y → y < x) (fun s => ((l.length : Int) - s).toNat) ?_ 0 ⟨0, rfl, Nat.zero_le _, fun j y hj => by omega⟩) ?_
  · rintro s ⟨n, rfl, hn, g⟩
    unfold ref29_put_B1
    refine Tot.bind (R := fun v => v = true ↔ ∃ y, l[n]? = some y ∧ y < x) (Tot.bind (R := fun v => v = true ↔ ∃ y, l[n]? = some y ∧ y < x) (Tot.ite (fun hlt => ?_) fun hge => Tot.ret ?_) fun _ h => Tot.ret h) fun v hv => Tot.ite (fun ht => ?_) fun hf => Tot.out (Tot.ret ⟨n, rfl, hn, g, fun y hy hyx => hf (hv.2 ⟨y, hy, hyx⟩)⟩)
    · have hlt : n < l.length := by simpa using hlt
      have hx := getLt hlt
      generalize l[n] = y at hx
      refine Tot.bindeq (idx_some hx) (Tot.ret ?_)
      rw [decide_eq_true_iff]
      exact ⟨fun h => ⟨y, hx, h⟩, fun ⟨z, hz, h⟩ => by rw [hx] at hz; cases hz; exact h⟩
    · have hge : ¬ n < l.length := by simpa using hge
      exact ⟨fun h => (by cases h), fun ⟨y, hy, _⟩ => absurd (getR hy).1 hge⟩
    · obtain ⟨y, hy, hyx⟩ := hv.1 ht
      have := (getR hy).1
      refine Tot.chk (by unfold InI64; omega) (Tot.inl ⟨⟨n + 1, rfl, this, fun j z hj hz => ?_⟩, by omega⟩)
      rcases Nat.lt_or_ge j n with h | h
      · exact g j z h hz
      · have : j = n := by omega
        subst this
        rw [hy] at hz; cases hz; exact hyx
  rintro v ⟨n, rfl, hn, g, hno⟩
  refine Tot.bind (R := fun v => v = true ↔ l[n]? = some x) (Tot.bind (R := fun v => v = true ↔ l[n]? = some x) (Tot.ite (fun hlt => ?_) fun hge => Tot.ret ?_) fun _ h => Tot.ret h) fun v hv => Tot.ite (fun ht => Tot.ret ?_) fun hf => ?_
  · have hlt : n < l.length := by simpa using hlt
    have hx := getLt hlt
    generalize l[n] = y at hx
    refine Tot.bindeq (idx_some hx) (Tot.ret ?_)
    rw [hx]; simp
  · have hge : ¬ n < l.length := by simpa using hge
    exact ⟨fun h => (by cases h), fun hy => absurd (getR hy).1 hge⟩
  · have hx := (getR (hv.1 ht)).2
    refine sorted_ext hs (sortU_sorted _) fun i => ?_
    rw [mem_sortU, List.mem_append, List.mem_singleton, hm]
    exact ⟨.inl, fun h => h.elim id fun e => by rw [e]; exact (hm x).1 hx⟩
  · have hne : l[n]? ≠ some x := fun e => hf (hv.2 e)
    have htl : (l.take n).length = n := by simp; omega
    refine Tot.chk (by omega) (Tot.chk (by omega) (Tot.chk (by simp; omega) (Tot.chk (by simp; omega) (Tot.chk (by simp; omega) (Tot.ret ?_)))))
    rw [Int.toNat_natCast]
    refine sorted_ext ?_ (sortU_sorted _) fun i => ?_
    · rw [List.append_assoc, List.pairwise_append]
      refine ⟨hs.sublist (List.take_sublist _ _), ?_, fun y hy z hz => ?_⟩
      · rw [List.singleton_append, List.pairwise_cons]
        refine ⟨fun z hz => ?_, hs.sublist (List.drop_sublist _ _)⟩
        obtain ⟨k, hk⟩ := memR hz
        rw [List.getElem?_drop] at hk
        rcases Nat.eq_zero_or_pos k with h0 | h0
        · subst h0
          have h1 := hno z hk
          have h2 : z ≠ x := fun e => hne (by rw [← e]; exact hk)
          omega
        · have hlt : n < l.length := by have := (getR hk).1; omega
          have h3 := sorted_idx' hs (getLt hlt) hk (by omega)
          have h1 := hno _ (getLt hlt)
          omega
      · have hyx : y < x := by
          obtain ⟨k, hk⟩ := memR hy
          have hk' := (getR hk).1
          rw [List.getElem?_take_of_lt (by omega)] at hk
          exact g k y (by omega) hk
        rcases List.mem_append.1 hz with e | e
        · rw [List.mem_singleton.1 e]; exact hyx
        · obtain ⟨k, hk⟩ := memR e
          rw [List.getElem?_drop] at hk
          have := (getR hk).1
          have h1 := hno _ (getLt (show n < l.length by omega))
          rcases Nat.eq_zero_or_pos k with h0 | h0
          · subst h0; rw [Nat.add_zero, getLt (show n < l.length by omega)] at hk; cases hk; omega
          · have h3 := sorted_idx' hs (getLt (show n < l.length by omega)) hk (by omega)
            omega
    · rw [mem_sortU, List.mem_append, List.mem_append, List.mem_append, List.mem_singleton, ← hm]
      have := List.take_append_drop n l
      have hmem : i ∈ l ↔ i ∈ l.take n ∨ i ∈ l.drop n := by rw [← List.mem_append, this]
      rw [hmem]
      constructor
      · rintro ((h | h) | h)
        · exact .inl (.inl h)
        · exact .inr h
        · exact .inl (.inr h)
      · rintro ((h | h) | h)
        · exact .inl (.inl h)
        · exact .inr h
        · exact .inl (.inr h)
theorem r_Open (r : api_Room) (leases : List api_Lease) (now : Int) (h : leases.length ≤ 100000) : ref29_Open r leases now = some (openB leases now r) := by
  unfold ref29_Open ref29_Open_L1
  have := loop_find (b := leases) (B := ref29_Open_B1 leases r now) (fun l => l.Client == r.Client && (l.Ino == r.Ino && (l.Kind == 2 && decide (l.Until > now)))) (fun _ _ => true) false ?_ ?_
  · rw [this]
    refine congrArg some ?_
    unfold openB
    rw [← List.findIdx?_isSome]
    cases hf : leases.findIdx? (fun l => l.Client == r.Client && (l.Ino == r.Ino && (l.Kind == 2 && decide (l.Until > now)))) with
    | none => rfl
    | some n =>
      obtain ⟨hn, -⟩ := List.findIdx?_eq_some_iff_getElem.1 hf
      simp [List.getElem?_eq_getElem hn]
  · intro n x hx hn
    have hb : ∀ y : Option (Int ⊕ Bool), True := fun _ => trivial
    have hc : (((if (x.Client == r.Client) then some ((x.Ino == r.Ino)) else some false).bind fun c1 => (if c1 then some ((x.Kind == 2)) else some false).bind fun c2 => (if c2 then some ((decide (x.Until > now))) else some false).bind fun c3 => some c3) : Option Bool) = some (x.Client == r.Client && (x.Ino == r.Ino && (x.Kind == 2 && decide (x.Until > now)))) := by
      cases (x.Client == r.Client) <;> cases (x.Ino == r.Ino) <;> cases (x.Kind == 2) <;> rfl
    split
    · rename_i h
      refine Tot.eq ?_
      unfold ref29_Open_B1
      exact Tot.cond (by simp; omega) (Tot.bindeq (idx_some hx) (Tot.bindeq hc (Tot.cond h ⟨_, rfl, rfl⟩)))
    · rename_i h
      refine Tot.eq ?_
      unfold ref29_Open_B1
      exact Tot.cond (by simp; omega) (Tot.bindeq (idx_some hx) (Tot.bindeq hc (Tot.ncond h (Tot.chk (by unfold InI64; omega) (Tot.ret rfl)))))
  · unfold ref29_Open_B1 ref29_Open_J1
    rw [if_neg (by simp)]; rfl
theorem r_Keeps {named : List api_Named} {rooms : List api_Room} {leases : List api_Lease} {now : Int} (hn : named.length ≤ 1000) (hr : rooms.length ≤ 1000) (hl : leases.length ≤ 1000) :
    ref29_Keeps named rooms leases now = some (sortU (keepIds named rooms leases now)) := by
  refine Tot.eq ?_
  unfold ref29_Keeps ref29_Keeps_L1 ref29_Keeps_L2
  have k1 : loop (ref29_Keeps_B1 named) ([], 0) = some (sortU (named.map (·.Id))) := by
    have := loop_takeF (b := named) (B := ref29_Keeps_B1 named) (fun n => sortU ((named.take n).map (·.Id))) (sortU (named.map (·.Id))) (fun n x hx => by
      have hlt := (getR hx).1
      refine Tot.eq ?_
      unfold ref29_Keeps_B1
      refine Tot.cond (by simp; omega) (Tot.bindeq (idx_some hx) (Tot.bindeq (r_put _ _ (by simp; omega)) (Tot.chk (by unfold InI64; dsimp only; omega) (Tot.ret ?_))))
      rw [take_next hx, List.map_append]; rfl) (by
      unfold ref29_Keeps_B1
      rw [if_neg (by simp), List.take_length]; rfl)
    have e0 : sortU ((named.take 0).map (·.Id)) = [] := sortU_nil'
    rw [e0] at this; exact this
  have k2 : loop (ref29_Keeps_B2 rooms leases now) (sortU (named.map (·.Id)), 0) = some (sortU (keepIds named rooms leases now)) := by
    have := loop_takeF (b := rooms) (B := ref29_Keeps_B2 rooms leases now) (fun n => sortU (named.map (·.Id) ++ ((rooms.take n).filter (openB leases now)).map (·.Id))) (sortU (keepIds named rooms leases now)) (fun n x hx => by
      have hlt := (getR hx).1
      refine Tot.eq ?_
      unfold ref29_Keeps_B2
      have hfl := List.length_filter_le (openB leases now) (rooms.take n)
      have htl : (rooms.take n).length = n := by simp; omega
      refine Tot.cond (by simp; omega) (Tot.bind (R := (· = sortU (named.map (·.Id) ++ ((rooms.take (n + 1)).filter (openB leases now)).map (·.Id)))) (Tot.bindeq (idx_some hx) (Tot.bindeq (r_Open x leases now (by omega)) (Tot.ite (fun h => ?_) fun h => Tot.ret ?_))) fun v hv => Tot.chk (by unfold InI64; dsimp only; omega) (Tot.ret (by rw [hv])))
      · refine Tot.bindeq (idx_some hx) (Tot.bindeq (r_put _ _ (by simp; omega)) (Tot.ret ?_))
        rw [take_next hx, List.filter_append, List.map_append, List.append_assoc]
        simp [h]
      · rw [take_next hx, List.filter_append, List.map_append]
        simp [h]) (by
      unfold ref29_Keeps_B2
      rw [if_neg (by simp), List.take_length]; rfl)
    have e : sortU (named.map (·.Id) ++ ((rooms.take 0).filter (openB leases now)).map (·.Id)) = sortU (named.map (·.Id)) := by simp
    rw [← this, e]
  exact Tot.bindeq k1 (Tot.bindeq k2 (Tot.ret rfl))
theorem r_Gone {named : List api_Named} {rooms : List api_Room} {leases : List api_Lease} {now : Int} {disks : List api_Disk} (hn : named.length ≤ 1000) (hr : rooms.length ≤ 1000) (hl : leases.length ≤ 1000) (hd : disks.length ≤ 1000) (okd : ∀ d, d ∈ disks → smallD d ∧ uniq d.Synced) :
    ref29_Gone named rooms leases now disks = some (sortU (goneIds disks (keepIds named rooms leases now))) := by
  refine Tot.eq ?_
  unfold ref29_Gone ref29_Gone_L1
  refine Tot.bindeq (r_Keeps hn hr hl) ?_
  have hkl : (sortU (keepIds named rooms leases now)).length ≤ 1000000 := by
    have := sortU_len (keepIds named rooms leases now)
    have := keepIds_len (named := named) (rooms := rooms) (leases := leases) (now := now)
    omega
  generalize keepIds named rooms leases now = K at *
  have k1 : loop (ref29_Gone_B1 disks (sortU K)) ([], 0) = some (sortU (goneIds disks K)) := by
    have := loop_takeF (b := disks) (B := ref29_Gone_B1 disks (sortU K)) (fun n => sortU (goneIds (disks.take n) K)) (sortU (goneIds disks K)) (fun n d hx => by
      have hlt := (getR hx).1
      have hgl := gone_len K (disks.take n)
      have htl : (disks.take n).length = n := by simp; omega
      have hsz := hasN_len d
      have ok := okd d (getR hx).2
      refine Tot.eq ?_
      unfold ref29_Gone_B1 ref29_Gone_L2
      refine Tot.cond (by simp; omega) (Tot.bindeq (a := sortU (goneIds (disks.take (n + 1)) K)) ?_ (Tot.chk (by unfold InI64; dsimp only; omega) (Tot.ret rfl)))
      rw [idx_some hx, Option.bind_some, r_Has d ok.1 ok.2, Option.bind_some]
      have h2 := loop_takeF (b := hasN d) (B := ref29_Gone_B2 (hasN d) (sortU K)) (fun m => sortU (goneIds (disks.take n) K ++ ((hasN d).take m).filter (fun x => decide (x ∉ K)))) (sortU (goneIds (disks.take (n + 1)) K)) (fun m i hi => by
        have hlt2 := (getR hi).1
        have hfl := List.length_filter_le (fun x => decide (x ∉ K)) ((hasN d).take m)
        have htm : ((hasN d).take m).length = m := by simp; omega
        refine Tot.eq ?_
        unfold ref29_Gone_B2
        refine Tot.cond (by simp; omega) (Tot.bind (R := (· = sortU (goneIds (disks.take n) K ++ ((hasN d).take (m + 1)).filter (fun x => decide (x ∉ K))))) (Tot.bindeq (idx_some hi) (Tot.bindeq (r_Has29 _ _ hkl) (Tot.ite (fun h => ?_) fun h => Tot.ret ?_))) fun v hv => Tot.chk (by unfold InI64; dsimp only; omega) (Tot.ret (by rw [hv])))
        · have h : i ∉ K := by rw [Bool.not_eq_true', decide_eq_false_iff_not, mem_sortU] at h; exact h
          refine Tot.bindeq (idx_some hi) (Tot.bindeq (r_put _ _ (by rw [List.length_append]; omega)) (Tot.ret ?_))
          rw [take_next hi, List.filter_append, List.append_assoc]
          simp [h]
        · have h : i ∈ K := by rw [Bool.not_eq_true', decide_eq_false_iff_not, mem_sortU] at h; exact Classical.not_not.1 h
          rw [take_next hi, List.filter_append]
          simp [h]) (by
        unfold ref29_Gone_B2
        rw [if_neg (by simp), List.take_length, take_next hx]
        refine congrArg (fun z => some (Sum.inr (sortU z))) ?_
        unfold goneIds
        rw [List.flatMap_append]; simp [lostIds])
      have e : sortU (goneIds (disks.take n) K ++ ((hasN d).take 0).filter (fun x => decide (x ∉ K))) = sortU (goneIds (disks.take n) K) := by simp
      rw [e] at h2
      exact h2) (by
      unfold ref29_Gone_B1
      rw [if_neg (by simp), List.take_length]; rfl)
    have e0 : sortU (goneIds (disks.take 0) K) = [] := sortU_nil'
    rw [e0] at this; exact this
  exact Tot.bindeq k1 (Tot.ret rfl)

theorem r_sweptIn (d : api_Disk) (G : List Int) (hG : G.length ≤ 1000000) (hd : OkS d 700) (hu : uniq d.Synced) : loop (ref29_swept_B1 (hasN d) G) (false, 0, d.Synced, d.Loose, d.Down) = some (decide (dropIds d G ≠ []), d.Synced, d.Loose ++ (dropIds d G).map pgN, d.Down) := by
  refine Tot.eq (Tot.loop (fun s => ∃ n : Nat, n ≤ (hasN d).length ∧ s = (decide (((hasN d).take n).filter (fun x => decide (x ∈ G)) ≠ []), (n : Int), d.Synced, d.Loose ++ (((hasN d).take n).filter (fun x => decide (x ∈ G))).map pgN, d.Down)) (fun s => (((hasN d).length : Int) - s.2.1).toNat) ?_ _ ⟨0, Nat.zero_le _, by simp⟩)
  rintro s ⟨n, hn, rfl⟩
  have hl := hasN_len d
  unfold ref29_swept_B1
  refine Tot.ite (fun hlt => ?_) fun hge => Tot.out (Tot.ret ?_)
  · have hlt : n < (hasN d).length := by simpa using hlt
    have hx : (hasN d)[n]? = some (hasN d)[n] := List.getElem?_eq_getElem hlt
    generalize (hasN d)[n] = x at hx
    have hm := List.mem_of_getElem? hx
    obtain ⟨I, hI⟩ : ∃ I, I = ((hasN d).take n).filter (fun x => decide (x ∈ G)) := ⟨_, rfl⟩
    have hIm : ∀ y, y ∈ I → y ∈ hasN d := fun y hy => by rw [hI] at hy; exact List.mem_of_mem_take (List.mem_filter.1 hy).1
    have hIl : I.length ≤ 200 := by
      have := List.length_filter_le (fun x => decide (x ∈ G)) ((hasN d).take n)
      have := List.length_take_le n (hasN d)
      rw [hI]; omega
    have hxI : x ∉ I := fun h => by rw [hI] at h; exact not_before (hasN_sorted d) hx (List.mem_filter.1 h).1
    rw [← hI]
    refine Tot.bind (R := (· = (decide (((hasN d).take (n + 1)).filter (fun x => decide (x ∈ G)) ≠ []), d.Synced, d.Loose ++ (((hasN d).take (n + 1)).filter (fun x => decide (x ∈ G))).map pgN, d.Down))) ?_ fun v hv => Tot.chk (by unfold InI64; dsimp only; omega) (Tot.inl ⟨⟨n + 1, hlt, by rw [hv]; rfl⟩, by dsimp only; omega⟩)
    refine Tot.bindeq (idx_some hx) (Tot.bindeq (r_Has29 G x hG) ?_)
    rw [take_next hx, List.filter_append, ← hI]
    refine Tot.ite (fun hg => ?_) fun hg => Tot.ret ?_
    · have hsm : smallD ⟨d.Synced, d.Loose ++ I.map pgN, d.Down⟩ := OkS.pgs I (b := d.Down) ⟨hd.s, hd.l, hd.x⟩ (by omega) (fun y hy => in64_has (hIm y hy)) hIl
      refine Tot.bindeq (idx_some hx) (Tot.bindeq (r_Lose _ x hsm hu) ?_)
      have ht : thereN ⟨d.Synced, d.Loose ++ I.map pgN, d.Down⟩ x = thereN d x := there_others _ _ _ _ _ hxI
      have hup := has_up hm
      unfold loseN writeN
      rw [ht, if_pos (hasN_mem.1 hm).2, if_neg (by rw [hup]; decide), if_pos (show mayN x ([] : List UInt8).length from may_has hm)]
      have e : [x].filter (fun x => decide (x ∈ G)) = [x] := by simp [of_decide_eq_true hg]
      rw [e]
      refine Tot.ret ?_
      simp [pgN]
    · have e : [x].filter (fun x => decide (x ∈ G)) = [] := by
        have : x ∉ G := by simpa using hg
        simp [this]
      rw [e, List.append_nil]
  · have : n = (hasN d).length := by have : ¬ n < (hasN d).length := by simpa using hge
                                     omega
    subst this
    rw [List.take_length]; rfl
theorem uniq_asc {l : List api_Page} (h : uniq l) : Asc l := by
  unfold Asc
  rw [List.pairwise_iff_getElem]
  intro i j hi hj hij
  exact h i j hij _ _ (getLt hi) (getLt hj)
theorem r_swept (d : api_Disk) (G : List Int) (hG : G.length ≤ 1000000) (hd : OkS d 700) (hu : uniq d.Synced) : ref29_swept d G = some (dropN d G) := by
  refine Tot.eq ?_
  unfold ref29_swept ref29_swept_L1 dropN
  refine Tot.bindeq (r_Has d (hd.small (by omega)) hu) (Tot.bindeq (r_sweptIn d G hG hd hu) ?_)
  by_cases h0 : dropIds d G = []
  · rw [if_pos h0]
    refine Tot.bindeq (a := (d.Synced, d.Loose, d.Down)) ?_ (Tot.ret rfl)
    rw [h0]; simp
  · rw [if_neg h0]
    have hup := drop_up h0
    obtain ⟨S, L, w⟩ := d
    dsimp only at hup
    subst hup
    refine Tot.bindeq (a := (laidN S (L ++ (dropIds ⟨S, L, false⟩ G).map pgN), [], false)) ?_ (Tot.ret rfl)
    rw [if_pos (by simpa using h0)]
    dsimp only
    have h1 := drop_len ⟨S, L, false⟩ G
    have h2 := hd.s
    have h3 := hd.l
    rw [r_Sync ⟨S, L ++ (dropIds ⟨S, L, false⟩ G).map pgN, false⟩ (uniq_asc hu) (by dsimp only at *; simp; omega)]; rfl
theorem r_Sweep {named : List api_Named} {rooms : List api_Room} {leases : List api_Lease} {now : Int} {disks : List api_Disk} (hn : named.length ≤ 1000) (hr : rooms.length ≤ 1000) (hl : leases.length ≤ 1000) (hd : disks.length ≤ 1000) (okd : ∀ d, d ∈ disks → OkS d 700 ∧ uniq d.Synced) :
    ref29_Sweep named rooms leases now disks = some (sweptN disks (sortU (goneIds disks (keepIds named rooms leases now))), rooms.filter (openB leases now)) := by
  refine Tot.eq ?_
  unfold ref29_Sweep ref29_Sweep_L1 ref29_Sweep_L2
  refine Tot.bindeq (r_Gone hn hr hl hd fun d h => ⟨(okd d h).1.small (by omega), (okd d h).2⟩) ?_
  have hGl : (sortU (goneIds disks (keepIds named rooms leases now))).length ≤ 200000 := by
    have := sortU_len (goneIds disks (keepIds named rooms leases now))
    have := gone_len (keepIds named rooms leases now) disks
    omega
  generalize sortU (goneIds disks (keepIds named rooms leases now)) = G at *
  have e1 : loop (ref29_Sweep_B1 disks G) (0, []) = some (sweptN disks G) := by
    have := loop_take (b := disks) (B := ref29_Sweep_B1 disks G) (fun n => sweptN (disks.take n) G) (sweptN disks G) (fun n d hx => by
      have hlt := (getR hx).1
      have hln : (sweptN (disks.take n) G).length ≤ n := by unfold sweptN; simp; omega
      refine Tot.eq ?_
      unfold ref29_Sweep_B1
      refine Tot.cond (by simp; omega) (Tot.bindeq (idx_some hx) (Tot.bindeq (r_swept d G (by omega) (okd d (getR hx).2).1 (okd d (getR hx).2).2) (Tot.chk (by simp; omega) (Tot.chk (by unfold InI64; dsimp only; omega) (Tot.ret ?_)))))
      rw [take_next hx]; unfold sweptN; rw [List.map_append]; rfl) (by
      unfold ref29_Sweep_B1
      rw [if_neg (by simp), List.take_length]; rfl)
    exact this
  have e2 : loop (ref29_Sweep_B2 rooms leases now) (0, []) = some (rooms.filter (openB leases now)) := by
    have := loop_take (b := rooms) (B := ref29_Sweep_B2 rooms leases now) (fun n => (rooms.take n).filter (openB leases now)) (rooms.filter (openB leases now)) (fun n x hx => by
      have hlt := (getR hx).1
      have hfl := List.length_filter_le (openB leases now) (rooms.take n)
      have htl : (rooms.take n).length = n := by simp; omega
      refine Tot.eq ?_
      unfold ref29_Sweep_B2
      refine Tot.cond (by simp; omega) (Tot.bind (R := (· = (rooms.take (n + 1)).filter (openB leases now))) (Tot.bindeq (idx_some hx) (Tot.bindeq (r_Open x leases now (by omega)) (Tot.ite (fun h => ?_) fun h => Tot.ret ?_))) fun v hv => Tot.chk (by unfold InI64; dsimp only; omega) (Tot.ret (by rw [hv])))
      · refine Tot.bindeq (idx_some hx) (Tot.chk (by simp; omega) (Tot.ret ?_))
        rw [take_next hx, List.filter_append]; simp [h]
      · rw [take_next hx, List.filter_append]; simp [h]) (by
      unfold ref29_Sweep_B2
      rw [if_neg (by simp), List.take_length]; rfl)
    exact this
  exact Tot.bindeq e1 (Tot.bindeq e2 (Tot.ret rfl))

theorem l_SweepTells (x : law29_Set) (now : Int) (h1 : ok_law29_Set x) (h2 : ok_i64 now) : law29_SweepTells x now = some true := by
  clear h2
  refine Tot.eq ?_
  unfold law29_SweepTells
  refine Tot.bindeq p_head29 (Tot.bind (t_Great29 t_GreatU x) fun b hb => Tot.ite (fun _ => Tot.ret rfl) fun hn => ?_)
  have FU := hb (by simpa using hn)
  have F := fit_of ⟨FU.n, FU.r, FU.l, FU.d, fun d hd => (FU.p d hd).1⟩ h1
  have hN := F.n; have hR := F.r; have hL := F.l; have hD := F.d
  have okd : ∀ d, d ∈ x.Disks → OkS d 700 ∧ uniq d.Synced := fun d hd => ⟨(F.p d hd).mono (by omega), (FU.p d hd).2⟩
  refine Tot.bindeq (p_Sweep (by omega) (by omega) (by omega) F.on F.or (by omega) fun d hd => (F.p d hd).mono (by omega)) (Tot.bindeq (r_Sweep (by omega) (by omega) (by omega) (by omega) okd) ?_)
  have e1 := p_Keeps (named := x.Named) (rooms := x.Rooms) (leases := x.Leases) (now := now) (by omega) (by omega) (by omega) F.on F.or
  have e2 := r_Keeps (named := x.Named) (rooms := x.Rooms) (leases := x.Leases) (now := now) (by omega) (by omega) (by omega)
  have e3 := p_Gone (named := x.Named) (rooms := x.Rooms) (leases := x.Leases) (now := now) (disks := x.Disks) (by omega) (by omega) (by omega) F.on F.or (by omega) fun d hd => (F.p d hd).small (by omega)
  have e4 := r_Gone (named := x.Named) (rooms := x.Rooms) (leases := x.Leases) (now := now) (disks := x.Disks) (by omega) (by omega) (by omega) (by omega) fun d hd => ⟨(F.p d hd).small (by omega), (FU.p d hd).2⟩
  have l1 : (sortU (keepIds x.Named x.Rooms x.Leases now)).length ≤ 1000000 := by
    have := sortU_len (keepIds x.Named x.Rooms x.Leases now)
    have := keepIds_len (named := x.Named) (rooms := x.Rooms) (leases := x.Leases) (now := now)
    omega
  have l2 : (sortU (goneIds x.Disks (keepIds x.Named x.Rooms x.Leases now))).length ≤ 1000000 := by
    have := sortU_len (goneIds x.Disks (keepIds x.Named x.Rooms x.Leases now))
    have := gone_len (keepIds x.Named x.Rooms x.Leases now) x.Disks
    omega
  refine Tot.bind (R := (· = true)) (Tot.bind (R := (· = true)) (Tot.cond rfl (Tot.bindeq e1 (Tot.bindeq e2 (Tot.bind ((p_RInts _ _ l1).mono fun _ h => h.2 rfl) fun _ h => Tot.ret h)))) fun c1 h1 => ?_) fun _ h => Tot.ret h
  subst h1
  refine Tot.bind (R := (· = true)) (Tot.cond rfl (Tot.bindeq e3 (Tot.bindeq e4 (Tot.bind ((p_RInts _ _ l2).mono fun _ h => h.2 rfl) fun _ h => Tot.ret h)))) fun c2 h2 => ?_
  subst h2
  refine Tot.bind (R := (· = true)) (Tot.cond rfl (Tot.bindeq (r_Disks _ ?_ ?_) (Tot.ret rfl))) fun c3 h3 => ?_
  · unfold sweptN; rw [List.length_map]; omega
  · intro d hd
    obtain ⟨e, he, rfl⟩ := List.mem_map.1 hd
    exact (ok_drop (F.p e he) _).mono (by omega)
  subst h3
  exact Tot.bind (R := (· = true)) (Tot.cond rfl (Tot.bindeq (r_Rooms _ (Nat.le_trans (List.length_filter_le _ _) (by omega))) (Tot.ret rfl))) fun _ h => Tot.ret h
end Go.Proofs
