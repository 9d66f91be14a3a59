/- Disks, plain: what is written is read; what is made sure of stays. No condition. -/
import Derived.Test.YtlhgbjgfnihijaaXDiskTellsP04c
import Derived.Test.YtlhgbjgfnihijaaXDiskTellsIn
namespace Go.Proofs
set_option linter.all false
open Go Go.Cat

theorem readN_last {d e : api_Disk} (a : Int) (hd : d.Down = false) (he : e.Down = false) (h : lastAt (d.Synced ++ d.Loose) a = lastAt (e.Synced ++ e.Loose) a) : readN d a = readN e a := by
  unfold readN
  unfold lastAt at h
  rw [hd, he, h]
theorem last_nil (l : List api_Page) (a : Int) : lastAt (l ++ []) a = lastAt l a := by rw [List.append_nil]
theorem last_app (l : List api_Page) (p : api_Page) (a : Int) : lastAt (l ++ [p]) a = if p.At = a then some p else lastAt l a := by
  unfold lastAt
  rw [List.reverse_append]
  show List.find? _ (p :: l.reverse) = _
  by_cases h : p.At = a
  · simp [h]
  · simp [h]
theorem sync_read {d : api_Disk} (a : Int) (h : d.Down = false) : readN (syncN d).1 a = readN d a := by
  unfold syncN
  rw [if_neg (by rw [h]; decide)]
  exact readN_last a rfl h (by show lastAt (laidN d.Synced d.Loose ++ []) a = _; rw [last_nil, last_laid])
theorem sync_ok {d : api_Disk} (h : d.Down = false) : (syncN d).2 = 0 ∧ (syncN d).1.Down = false ∧ (syncN d).1.Loose = [] := by
  unfold syncN
  rw [if_neg (by rw [h]; decide)]; exact ⟨rfl, rfl, rfl⟩
theorem crash_read {d : api_Disk} (k a : Int) (h : d.Down = false) (hl : d.Loose = []) : readN ⟨(crashN d k).Synced, (crashN d k).Loose, false⟩ a = readN d a := by
  refine readN_last a rfl h ?_
  show lastAt (laidN d.Synced (d.Loose.take _) ++ []) a = _
  rw [last_nil, last_laid, hl, List.take_nil]
theorem p_Up (d : api_Disk) : disk_Up d = some ⟨d.Synced, d.Loose, false⟩ := rfl

theorem l_DiskSure (p_d : api_Disk) (p_keep : Int) (p_at : Int) : law04_DiskSure p_d p_keep p_at = some true := by
  refine Tot.eq ?_
  unfold law04_DiskSure
  refine Tot.bindeq p_head04 (Tot.bind (t_Fits04 p_d) fun x2 h2 => Tot.bind (R := fun v => v = false → x2 = true ∧ p_d.Down = false) (Tot.bind (R := fun v => v = false → x2 = true ∧ p_d.Down = false) (Tot.ite (fun _ => Tot.ret fun e => by cases e) fun hn => Tot.ret fun e => ⟨by simpa using hn, e⟩) fun _ h => Tot.ret h) fun v hv => Tot.ite (fun _ => Tot.ret rfl) fun hn => ?_)
  obtain ⟨e2, hd⟩ := hv (by simpa using hn)
  have hf := (h2 e2).1
  have hs := hf.sync
  have hc := hs.crash p_keep
  have ok := sync_ok hd
  have er := crash_read (d := (syncN p_d).1) p_keep p_at ok.2.1 ok.2.2
  rw [sync_read p_at hd] at er
  refine Tot.bindeq (p_Read _ _ (hf.mono (by omega)).small) (Tot.bindeq (p_Sync _ (hf.mono (by omega))) (Tot.bindeq (p_Crash _ _ (hs.mono (by omega))) (Tot.bindeq (p_Up _) (Tot.bindeq (p_Read _ _ ((hc.mono (by omega)).up false).small) ?_))))
  rw [er]
  refine Tot.bindeq (bytes_t (by have := readN_len (hf.mono (m := 500) (by omega)).small p_at; omega) rfl) ?_
  rw [ok.1]
  simp only [if_true, Option.bind_some, beq_self_eq_true]
  exact Tot.ret rfl

theorem l_DiskWritten (p_d : api_Disk) (p_at : Int) (p_data : List UInt8) (p_other : Int) : law04_DiskWritten p_d p_at p_data p_other = some true := by
  refine Tot.eq ?_
  unfold law04_DiskWritten
  refine Tot.bindeq p_head04 (Tot.bind (t_Fits04 p_d) fun x2 h2 => Tot.bind (R := fun v => v = false → ((((x2 = true ∧ p_d.Down = false) ∧ 0 ≤ p_at) ∧ p_at < 1000) ∧ p_data.length ≤ 200)) ?_ fun v hv => Tot.ite (fun _ => Tot.ret rfl) fun hn => ?_)
  · refine Tot.bind (R := fun v => v = false → (x2 = true ∧ p_d.Down = false)) (Tot.ite (fun _ => Tot.ret fun e => by cases e) fun hn => Tot.ret fun e => ⟨by simpa using hn, e⟩) fun c1 h1 => ?_
    refine Tot.bind (R := fun v => v = false → ((x2 = true ∧ p_d.Down = false) ∧ 0 ≤ p_at)) (Tot.ite (fun _ => Tot.ret fun e => by cases e) fun hn => Tot.ret fun e => ⟨h1 (by simpa using hn), by simpa using e⟩) fun c2 h2 => ?_
    refine Tot.bind (R := fun v => v = false → (((x2 = true ∧ p_d.Down = false) ∧ 0 ≤ p_at) ∧ p_at < 1000)) (Tot.ite (fun _ => Tot.ret fun e => by cases e) fun hn => Tot.ret fun e => ⟨h2 (by simpa using hn), by have : p_at ≤ 999 := (by simpa using e); omega⟩) fun c3 h3 => ?_
    exact Tot.bind (R := fun v => v = false → ((((x2 = true ∧ p_d.Down = false) ∧ 0 ≤ p_at) ∧ p_at < 1000) ∧ p_data.length ≤ 200)) (Tot.ite (fun _ => Tot.ret fun e => by cases e) fun hn => Tot.ret fun e => ⟨h3 (by simpa using hn), by have : (p_data.length : Int) ≤ 200 := (by simpa using e); omega⟩) fun _ h => Tot.ret h
  obtain ⟨⟨⟨⟨e2, hd⟩, ha0⟩, ha1⟩, hlen⟩ := hv (by simpa using hn)
  have hf := (h2 e2).1
  have hm : mayN p_at p_data.length := ⟨⟨ha0, ha1⟩, hlen⟩
  have ew : writeN p_d p_at p_data = (⟨p_d.Synced, p_d.Loose ++ [⟨p_at, p_data⟩], p_d.Down⟩, 0) := by
    unfold writeN; rw [if_neg (by rw [hd]; decide), if_pos hm]
  have hw := hf.write p_at p_data
  rw [ew] at hw
  have hws : Few _ 61 := hw
  have hs := hws.sync
  have ok := sync_ok (d := ⟨p_d.Synced, p_d.Loose ++ [⟨p_at, p_data⟩], p_d.Down⟩) hd
  have es : ∀ a, readN (syncN ⟨p_d.Synced, p_d.Loose ++ [⟨p_at, p_data⟩], p_d.Down⟩).1 a = readN ⟨p_d.Synced, p_d.Loose ++ [⟨p_at, p_data⟩], p_d.Down⟩ a := fun a => sync_read a hd
  have ea : readN ⟨p_d.Synced, p_d.Loose ++ [⟨p_at, p_data⟩], p_d.Down⟩ p_at = (p_data, 0) := by
    have h := last_app (p_d.Synced ++ p_d.Loose) ⟨p_at, p_data⟩ p_at
    rw [if_pos rfl, List.append_assoc] at h
    unfold lastAt at h
    unfold readN
    rw [if_neg (by show ¬ p_d.Down = true; rw [hd]; decide), if_pos ⟨⟨ha0, ha1⟩, Nat.zero_le _⟩]
    show (match List.find? _ (p_d.Synced ++ (p_d.Loose ++ [(⟨p_at, p_data⟩ : api_Page)])).reverse with | none => _ | some p => _) = _
    rw [h]
  refine Tot.bindeq (p_Read _ _ (hf.mono (by omega)).small) (Tot.bindeq (p_Write _ _ _ (by have := hf.l; omega) (by omega)) ?_)
  rw [ew]
  refine Tot.bindeq (p_Read _ _ (hws.mono (by omega)).small) (Tot.bindeq (p_Sync _ (hws.mono (by omega))) (Tot.bindeq (p_Read _ _ (hs.mono (by omega)).small) ?_))
  rw [es, ea]
  refine Tot.bindeq (bytes_t (by show p_data.length ≤ _; omega) rfl) (Tot.bindeq (bytes_t (by show p_data.length ≤ _; omega) rfl) ?_)
  rw [ok.1]
  refine Tot.bind (R := (· = false)) (Tot.of rfl) fun v hv => ?_
  subst hv
  refine Tot.ncond (by decide) (Tot.ite (fun _ => Tot.ret rfl) fun hne => ?_)
  have hne : ¬ p_at = p_other := fun e => hne (by rw [e]; simp)
  have eo : readN ⟨p_d.Synced, p_d.Loose ++ [⟨p_at, p_data⟩], p_d.Down⟩ p_other = readN p_d p_other := readN_last _ hd hd (by
    have h := last_app (p_d.Synced ++ p_d.Loose) ⟨p_at, p_data⟩ p_other
    rw [if_neg hne, List.append_assoc] at h
    exact h)
  refine Tot.bindeq (p_Read _ _ (hws.mono (by omega)).small) (Tot.bindeq (p_Read _ _ (hs.mono (by omega)).small) ?_)
  rw [es, eo]
  have hl := readN_len (hf.mono (m := 500) (by omega)).small p_other
  refine Tot.bindeq (bytes_t (by omega) rfl) (Tot.bindeq (bytes_t (by omega) rfl) ?_)
  simp only [if_true, Option.bind_some, beq_self_eq_true]
  exact Tot.ret rfl
end Go.Proofs
