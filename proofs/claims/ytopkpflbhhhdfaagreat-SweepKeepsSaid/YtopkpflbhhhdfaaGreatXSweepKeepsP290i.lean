/- Sweeping, plain: all servers, and the rooms. No condition. -/
import Derived.Test.YtopkpflbhhhdfaaGreatXSweepKeepsP290h
namespace Go.Proofs
set_option linter.all false
open Go Go.Cat
set_option linter.all false

theorem p_shut (leases : List api_Lease) (now : Int) (r : api_Room) (h : leases.length ≤ 100000) : sweep_Sweep_1 r leases now = some (!openB leases now r) := by
  unfold sweep_Sweep_1
  rw [p_open leases now r h]; rfl
theorem p_shutIx (l : List api_Room) (leases : List api_Lease) (now : Int) (hl : l.length ≤ 100000) (h : leases.length ≤ 100000) :
    slices_IndexFunc_api_Room_api_Room__sweep_Sweep_1_2 l leases now = some (match l.findIdx? (fun r => !openB leases now r) with | some n => (n : Int) | none => -1) := by
  unfold slices_IndexFunc_api_Room_api_Room__sweep_Sweep_1_2 slices_IndexFunc_api_Room_api_Room__sweep_Sweep_1_2_L1
  have := loop_find (b := l) (B := slices_IndexFunc_api_Room_api_Room__sweep_Sweep_1_2_B1 l leases now) (fun r => !openB leases now r) (fun n _ => (n : Int)) (-1) ?_ ?_
  · rw [this]
    refine congrArg some ?_
    cases hf : l.findIdx? (fun r => !openB leases now r) with
    | none => rfl
    | some n =>
      obtain ⟨hn, -⟩ := List.findIdx?_eq_some_iff_getElem.1 hf
      simp [List.getElem?_eq_getElem hn]
  · intro n x hx hn
    split
    · rename_i hp
      refine Tot.eq ?_
      unfold slices_IndexFunc_api_Room_api_Room__sweep_Sweep_1_2_B1
      exact Tot.cond (by simp; omega) (Tot.bindeq (idx_some hx) (Tot.bindeq (p_shut leases now x h) (Tot.cond hp ⟨_, rfl, rfl⟩)))
    · rename_i hp
      refine Tot.eq ?_
      unfold slices_IndexFunc_api_Room_api_Room__sweep_Sweep_1_2_B1
      exact Tot.cond (by simp; omega) (Tot.bindeq (idx_some hx) (Tot.bindeq (p_shut leases now x h) (Tot.ncond hp (Tot.chk (by unfold InI64; omega) (Tot.ret rfl)))))
  · unfold slices_IndexFunc_api_Room_api_Room__sweep_Sweep_1_2_B1 slices_IndexFunc_api_Room_api_Room__sweep_Sweep_1_2_J1
    rw [if_neg (by simp)]; rfl
theorem p_delLoop (l : List api_Room) (leases : List api_Lease) (now : Int) (hl : l.length ≤ 100000) (h : leases.length ≤ 100000) (i0 j0 : Nat) (hij : i0 < j0) (hj : j0 ≤ l.length) (hf : l.take i0 = (l.take j0).filter (openB leases now)) :
    Tot (loop (slices_DeleteFunc_api_Room_api_Room__sweep_Sweep_1_B1 leases now) ((i0 : Int), (j0 : Int), l)) (fun v => 0 ≤ v.1 ∧ v.1.toNat ≤ v.2.length ∧ v.2.length = l.length ∧ v.2.take v.1.toNat = l.filter (openB leases now)) := by
  refine Tot.loop (fun s : Int × Int × List api_Room => ∃ i j : Nat, s.1 = i ∧ s.2.1 = j ∧ i < j ∧ j ≤ l.length ∧ s.2.2.length = l.length ∧ s.2.2.take i = (l.take j).filter (openB leases now) ∧ s.2.2.drop j = l.drop j) (fun s => ((l.length : Int) - s.2.1).toNat) ?_ _ ⟨i0, j0, rfl, rfl, hij, hj, rfl, hf, rfl⟩
  rintro ⟨si, sj, m⟩ ⟨i, j, e1, e2, g1, g2, g3, g4, g5⟩
  dsimp only at e1 e2 g3 g4 g5
  subst e1 e2
  unfold slices_DeleteFunc_api_Room_api_Room__sweep_Sweep_1_B1
  refine Tot.ite (fun hlt => ?_) fun hge => Tot.out (Tot.ret ?_)
  · have hlt : j < m.length := by simpa using hlt
    have hlt' : j < l.length := by omega
    have hx : l[j]? = some l[j] := List.getElem?_eq_getElem hlt'
    have hm : m[j]? = some l[j] := by
      have := congrArg (fun x : List api_Room => x[0]?) g5
      simp only [List.getElem?_drop, Nat.add_zero] at this
      rw [this, hx]
    generalize l[j] = x at hx hm
    have hdrop : m.drop (j + 1) = l.drop (j + 1) := by
      have := congrArg (List.drop 1) g5
      simpa [List.drop_drop] using this
    have ht : l.take (j + 1) = l.take j ++ [x] := take_next hx
    refine Tot.bind (R := fun v : Int × List api_Room => ∃ i' : Nat, v.1 = (i' : Int) ∧ i' < j + 1 ∧ v.2.length = l.length ∧ v.2.take i' = (l.take (j + 1)).filter (openB leases now) ∧ v.2.drop (j + 1) = l.drop (j + 1)) ?_ fun v hv => ?_
    · refine Tot.bindeq (idx_some hm) (Tot.bindeq (p_shut leases now x h) (Tot.ite (fun ho => ?_) fun ho => Tot.ret ⟨i, rfl, by omega, g3, ?_, hdrop⟩))
      · have ho : openB leases now x = true := by simpa using ho
        have hi : m[i]? = some m[i] := List.getElem?_eq_getElem (by omega)
        refine Tot.bindeq (idx_some hi) (Tot.chk (by unfold InI64; dsimp only; omega) (Tot.ret ⟨i + 1, rfl, by omega, by simpa using g3, ?_, ?_⟩))
        · have hs : (m.set i x)[i]? = some x := by rw [List.getElem?_set_self (by omega)]
          have hs1 : (m.set i x).take (i + 1) = (m.set i x).take i ++ [x] := take_next hs
          rw [ht, List.filter_append, ← g4]
          show (m.set (i : Int).toNat x).take (i + 1) = _
          rw [Int.toNat_natCast, hs1, List.take_set_of_le (Nat.le_refl i)]
          simp [ho]
        · show (m.set (i : Int).toNat x).drop (j + 1) = _
          rw [Int.toNat_natCast, List.drop_set_of_lt (by omega), hdrop]
      · have ho : openB leases now x = false := by simpa using ho
        rw [ht, List.filter_append, ← g4]
        simp [ho]
    · obtain ⟨i', h1, h2, h3, h4, h5⟩ := hv
      exact Tot.chk (by unfold InI64; dsimp only; omega) (Tot.inl ⟨⟨i', j + 1, h1, rfl, h2, hlt', h3, h4, h5⟩, by dsimp only; omega⟩)
  · have hge : ¬ j < m.length := by simpa using hge
    have : j = l.length := by omega
    subst this
    rw [List.take_length] at g4
    exact ⟨by dsimp only; omega, by dsimp only; omega, g3, g4⟩
theorem findIdx_none {α : Type} {p : α → Bool} : ∀ {l : List α}, l.findIdx? p = none → l.filter (fun x => !p x) = l
  | [], _ => rfl
  | x :: l, h => by
    have h := List.findIdx?_eq_none_iff.1 h
    rw [List.filter_eq_self]
    intro y hy
    simp [h y hy]
theorem p_Del (l : List api_Room) (leases : List api_Lease) (now : Int) (hl : l.length ≤ 100000) (h : leases.length ≤ 100000) :
    slices_DeleteFunc_api_Room_api_Room__sweep_Sweep_1 l leases now = some (l.filter (openB leases now)) := by
  refine Tot.eq ?_
  unfold slices_DeleteFunc_api_Room_api_Room__sweep_Sweep_1 slices_DeleteFunc_api_Room_api_Room__sweep_Sweep_1_L1
  refine Tot.bindeq (p_shutIx l leases now hl h) ?_
  cases hf : l.findIdx? (fun r => !openB leases now r) with
  | none =>
    refine Tot.cond (by decide) (Tot.ret ?_)
    have := findIdx_none hf
    simpa using this.symm
  | some n =>
    obtain ⟨hn, hp, hb⟩ := List.findIdx?_eq_some_iff_getElem.1 hf
    refine Tot.ncond (by simp) (Tot.bind (Tot.chk (by unfold InI64; dsimp only; omega) (p_delLoop l leases now hl h n (n + 1) (by omega) hn ?_)) fun v hv => ?_)
    · rw [take_next (List.getElem?_eq_getElem hn), List.filter_append]
      have e1 : (l.take n).filter (openB leases now) = l.take n := by
        rw [List.filter_eq_self]
        intro y hy
        obtain ⟨k, hk, rfl⟩ := List.getElem_of_mem hy
        have := hb k (by simp at hk; omega)
        simpa using this
      have e2 : openB leases now l[n] = false := by simpa using hp
      rw [e1]; simp [e2]
    · obtain ⟨h1, h2, h3, h4⟩ := hv
      have hlen : (v.2.take v.1.toNat ++ List.replicate (v.2.length - v.1.toNat) (⟨0, 0, 0⟩ : api_Room)).length = v.2.length := by simp; omega
      refine Tot.chk ⟨h1, by omega⟩ (Tot.chk ⟨h1, by rw [hlen]; omega⟩ (Tot.ret ?_))
      rw [← h4, List.take_append_of_le_length (by simp; omega), List.take_take, Nat.min_self]
theorem p_CloneR (l : List api_Room) (h : l.length ≤ 1000000) : slices_Clone_api_Room_api_Room l = some l := eq_slices_Clone_api_Room_api_Room l (by omega)

/-! A sweep. -/
def sweptN (disks : List api_Disk) (G : List Int) : List api_Disk := disks.map fun d => dropN d G
theorem p_Sweep {named : List api_Named} {rooms : List api_Room} {leases : List api_Lease} {now : Int} {disks : List api_Disk} (hn : named.length ≤ 1000) (hr : rooms.length ≤ 1000) (hl : leases.length ≤ 1000) (okn : ∀ n, n ∈ named → InI64 n.Id) (okr : ∀ r, r ∈ rooms → InI64 r.Id) (hd : disks.length ≤ 1000) (okd : ∀ d, d ∈ disks → OkS d 700) :
    sweep_Sweep named rooms leases now disks = some (sweptN disks (sortU (goneIds disks (keepIds named rooms leases now))), rooms.filter (openB leases now)) := by
  refine Tot.eq ?_
  unfold sweep_Sweep sweep_Sweep_L1 sweep_Sweep_L2
  have hG : ∀ x, x ∈ sortU (goneIds disks (keepIds named rooms leases now)) → InI64 x := fun x hx => by
    obtain ⟨-, d, -, h⟩ := mem_gone.1 (mem_sortU.1 hx)
    exact in64_has h
  have hGl : (sortU (goneIds disks (keepIds named rooms leases now))).length ≤ 200000 := by
    have := sortU_len (goneIds disks (keepIds named rooms leases now))
    have := gone_len (keepIds named rooms leases now) disks
    omega
  refine Tot.bindeq (a := setM (sortU (goneIds disks (keepIds named rooms leases now))) []) ?_ ?_
  · rw [p_Gone hn hr hl okn okr hd fun d h => (okd d h).small (by omega), Option.bind_some]
    generalize sortU (goneIds disks (keepIds named rooms leases now)) = G at *
    exact (loop_eachN (b := G) (B := sweep_Sweep_B1 G) (fun m x => mset x true m) (fun n m => m.length ≤ n) id (fun m n x hm hx hlt => ⟨by
      refine Tot.eq ?_
      unfold sweep_Sweep_B1
      exact Tot.cond (by simp; omega) (Tot.bindeq (idx_some hx) (Tot.chk ⟨hG x (List.mem_of_getElem? hx), by dsimp only; omega⟩ (Tot.chk (by unfold InI64; dsimp only; omega) (Tot.ret rfl)))), by have := mset_len x true m; omega⟩) (fun m hm => by
      unfold sweep_Sweep_B1
      rw [if_neg (by simp)]; rfl) [] (Nat.le_refl _)).1
  · generalize sortU (goneIds disks (keepIds named rooms leases now)) = G at *
    have h2 := loop_eachN (b := disks) (B := sweep_Sweep_B2 disks (setM G [])) (fun a d => a ++ [dropN d G]) (fun n a => a.length ≤ n) id (fun a n d ha hx hlt => ⟨by
      refine Tot.eq ?_
      unfold sweep_Sweep_B2
      exact Tot.cond (by simp; omega) (Tot.bindeq (idx_some hx) (Tot.bindeq (p_swept d G (okd d (List.mem_of_getElem? hx))) (Tot.chk (by simp; omega) (Tot.chk (by unfold InI64; dsimp only; omega) (Tot.ret rfl))))), by simp; omega⟩) (fun a ha => by
      unfold sweep_Sweep_B2
      rw [if_neg (by simp)]; rfl) [] (Nat.le_refl _)
    have e2 : loop (sweep_Sweep_B2 disks (setM G [])) (0, []) = some (sweptN disks G) := h2.1.trans (congrArg some (by
      have : ∀ (ds : List api_Disk) (a : List api_Disk), ds.foldl (fun a d => a ++ [dropN d G]) a = a ++ sweptN ds G := by
        intro ds
        induction ds with
        | nil => intro a; simp [sweptN]
        | cons d ds ih => intro a; rw [List.foldl_cons, ih]; simp [sweptN]
      exact (this disks []).trans (List.nil_append _)))
    exact Tot.bindeq e2 (Tot.bindeq (a := ()) rfl (Tot.bindeq (p_CloneR rooms (by omega)) (Tot.bindeq (p_Del rooms leases now (by omega) (by omega)) (Tot.ret rfl))))

/-! What a law asks. -/
theorem t_Great27 {P : api_Disk → Prop} (hP : ∀ d, Tot (law25_Great d) (fun b => b = false → P d)) (disks : List api_Disk) : Tot (law27_Great disks []) (fun b => b = false → disks.length ≤ 6 ∧ ∀ d, d ∈ disks → P d) := by
  unfold law27_Great law27_Great_L1
  refine Tot.bind (R := Tells (6 < disks.length ∨ False)) (Tot.bind (Tot.orI (Q := False) (by simp; omega) fun _ => Tot.dec (by simp)) fun _ h => Tot.ret h) fun b hb => Tot.ite (fun _ => Tot.ret fun e => by cases e) fun hn => ?_
  have hs : disks.length ≤ 6 := Nat.le_of_not_lt fun hh => hn (hb.2 (.inl hh))
  refine Tot.loop (fun s : Int => 0 ≤ s ∧ s ≤ (disks.length : Int) ∧ ∀ j : Nat, j < s.toNat → ∀ x, disks[j]? = some x → P x) (fun s => ((disks.length : Int) - s).toNat) ?_ 0 ⟨by simp, by simp, fun j hj => by simp at hj⟩
  rintro s ⟨g0, g1, g2⟩
  unfold law27_Great_B1 law27_Great_J1 law27_Great_L2
  refine Tot.ite (fun hlt => ?_) (fun hge => Tot.out (Tot.of (loop_inr (r := false) ?_) |>.mono fun b e _ => ⟨hs, fun p hp => ?_⟩))
  · have hlt : s < disks.length := by simpa using hlt
    refine Tot.bind (Tot.idx g0 hlt (Q := fun x => disks[s.toNat]? = some x) fun _ h => h) fun x hx => Tot.bind (hP x) fun b hb => Tot.ite (fun _ => Tot.out (Tot.ret fun e => by cases e)) fun hl => Tot.chk (by unfold InI64; omega) (Tot.inl ⟨⟨by omega, by omega, fun j hj y hy => ?_⟩, by omega⟩)
    rcases Nat.lt_or_ge j s.toNat with h | h
    · exact g2 j h y hy
    · have : j = s.toNat := by omega
      subst this
      rw [hx] at hy; cases hy
      exact hb (by simpa using hl)
  · unfold law27_Great_B2 law27_Great_J2
    rw [if_neg (by simp)]; rfl
  · obtain ⟨j, hj, rfl⟩ := List.getElem_of_mem hp
    have hge : ¬ s < disks.length := by simpa using hge
    exact g2 j (by omega) _ (List.getElem?_eq_getElem hj)
structure FitP (P : api_Disk → Prop) (x : law29_Set) : Prop where
  n : x.Named.length ≤ 60
  r : x.Rooms.length ≤ 60
  l : x.Leases.length ≤ 60
  d : x.Disks.length ≤ 6
  p : ∀ d, d ∈ x.Disks → P d
theorem t_Great29 {P : api_Disk → Prop} (hP : ∀ d, Tot (law25_Great d) (fun b => b = false → P d)) (x : law29_Set) : Tot (law29_Great x) (fun b => b = false → FitP P x) := by
  unfold law29_Great
  refine Tot.bind (R := fun b => b = false → FitP P x) (Tot.bind (R := Tells (60 < x.Named.length ∨ 60 < x.Rooms.length)) (Tot.orI (by simp; omega) fun _ => Tot.dec (by omega)) fun c1 h1 => Tot.bind (R := Tells ((60 < x.Named.length ∨ 60 < x.Rooms.length) ∨ 60 < x.Leases.length)) (Tot.orI h1 fun _ => Tot.dec (by omega)) fun c2 h2 => Tot.bind (R := fun b => b = false → FitP P x) (Tot.ite (fun _ => Tot.ret fun e => by cases e) fun hc => Tot.bind (t_Great27 hP x.Disks) fun b hb => Tot.ret fun e => ?_) fun _ h => Tot.ret h) fun _ h => Tot.ret h
  have hno : ¬ ((60 < x.Named.length ∨ 60 < x.Rooms.length) ∨ 60 < x.Leases.length) := fun h => hc (h2.2 h)
  obtain ⟨h3, h4⟩ := hb e
  exact ⟨by omega, by omega, by omega, h3, h4⟩
structure Fit (x : law29_Set) : Prop where
  n : x.Named.length ≤ 60
  r : x.Rooms.length ≤ 60
  l : x.Leases.length ≤ 60
  d : x.Disks.length ≤ 6
  p : ∀ d, d ∈ x.Disks → OkS d 60
  on : ∀ n, n ∈ x.Named → InI64 n.Id
  or : ∀ r, r ∈ x.Rooms → InI64 r.Id
theorem fit_of {x : law29_Set} (h : FitP modest x) (ok : ok_law29_Set x) : Fit x :=
  ⟨h.n, h.r, h.l, h.d, fun d hd => OkS.of (okD_of (h.p d hd) (ok.2.2.2.2 d hd)), fun n hn => (ok.1.2 n hn).2.2.2, fun r hr => (ok.2.1.2 r hr).1⟩

theorem p_head29 : law29_head = some true := le_law29_head 300 _ (by kernel_rfl)
end Go.Proofs
