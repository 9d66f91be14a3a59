/- Sweeping, plain: rooms and clocks. No condition. -/
import Derived.Test.YtopkpflbhhhdfaaXSweepClockP29l
namespace Go.Proofs
set_option linter.all false
open Go Go.Cat
set_option linter.all false

theorem wait_all : ∀ k : Nat, k < 64 → clock_Wait' 60 ((k : Int) + 1) = some ((k : Int) + 3) := by decide +kernel
theorem least_all : ∀ k : Nat, k < 200 → clock_Least' 60 (k : Int) = some (((k - 1 : Nat) : Int)) := by decide +kernel
theorem most_all : ∀ k : Nat, k < 200 → clock_Most' 60 (k : Int) = some (if k = 0 then 0 else (k : Int) + 1) := by decide +kernel
theorem sortU_one (i : Int) : sortU [i] = [i] := sorted_ext (sortU_sorted _) (List.pairwise_singleton _ _) fun x => by rw [mem_sortU]
theorem sortU_nil : sortU [] = [] := sorted_ext (sortU_sorted _) List.Pairwise.nil fun x => by rw [mem_sortU]

theorem l_SweepClock (room : api_Room) (from_ : Int) (many : UInt8) (real : Int) (drift : UInt8) (h1 : ok_api_Room room) (h2 : ok_u16 from_) (h3 : ok_u8 many) (h4 : ok_u16 real) (h5 : ok_u8 drift) : law29_SweepClock room from_ many real drift = some true := by
  have f2 : 0 ≤ from_ ∧ from_ ≤ 65535 := h2
  have f4 : 0 ≤ real ∧ real ≤ 65535 := h4
  have hid : InI64 room.Id := h1.1
  clear h1 h2 h3 h4 h5
  refine Tot.eq ?_
  unfold law29_SweepClock
  have w1 : IntKind.i64.wrap from_ = from_ := IntWalk.i64_in _ (show InI64 from_ by unfold InI64; omega)
  have w2 : IntKind.i64.wrap real = real := IntWalk.i64_in _ (show InI64 real by unfold InI64; omega)
  rw [w1, w2]
  obtain ⟨n, hn, hn0⟩ : ∃ n : Nat, Int.tmod ((many.toNat : Int)) 64 = (n : Int) ∧ n < 64 := by
    rw [Int.tmod_eq_emod_of_nonneg (by omega)]
    exact ⟨((many.toNat : Int) % 64).toNat, by omega, by omega⟩
  obtain ⟨g, hg, hg0⟩ : ∃ g : Nat, Int.tmod real 200 = (g : Int) ∧ g < 200 := by
    rw [Int.tmod_eq_emod_of_nonneg (by omega)]
    exact ⟨(real % 200).toNat, by omega, by omega⟩
  rw [hn, hg]
  have e1 : clock_Wait (1 + (n : Int)) = some ((n : Int) + 3) := by
    rw [Int.add_comm]; exact le_clock_Wait 60 _ _ (wait_all n hn0)
  have e2 : clock_Least (g : Int) = some (((g - 1 : Nat) : Int)) := le_clock_Least 60 _ _ (least_all g hg0)
  have e3 : clock_Most (g : Int) = some (if g = 0 then 0 else (g : Int) + 1) := le_clock_Most 60 _ _ (most_all g hg0)
  obtain ⟨m, hm⟩ : ∃ m : Int, m = if g = 0 then 0 else (g : Int) + 1 := ⟨_, rfl⟩
  obtain ⟨q, hq⟩ : ∃ q : Int, q = ((g - 1 : Nat) : Int) := ⟨_, rfl⟩
  rw [← hm] at e3
  rw [← hq] at e2
  have hqm : 0 ≤ q ∧ q ≤ m ∧ m ≤ 1000 ∧ (q < (n : Int) + 1 → m < (n : Int) + 3) := by
    by_cases h : g = 0
    · rw [if_pos h] at hm; omega
    · rw [if_neg h] at hm; omega
  clear hq hm
  refine Tot.bindeq p_head29 (Tot.chk (by unfold InI64; omega) (Tot.bindeq e1 (Tot.chk (by unfold InI64; omega) (Tot.bindeq e2 (Tot.bindeq e3 ?_)))))
  refine Tot.bind (R := (· = false)) ?_ fun v hv => ?_
  · refine Tot.bind (R := (· = false)) (Tot.ncond (by simp; omega) (Tot.ret (by simp; omega))) fun c hc => ?_
    subst hc
    exact Tot.bind (R := (· = false)) (Tot.ncond (by decide) (Tot.ret (by simp; omega))) fun _ h => Tot.ret h
  subst hv
  refine Tot.ncond (by decide) ?_
  obtain ⟨t, ht, ht0⟩ : ∃ t : Int, Int.tmod ((drift.toNat : Int)) (m - q + 1) = t ∧ 0 ≤ t ∧ t ≤ m - q := by
    rw [Int.tmod_eq_emod_of_nonneg (by omega)]
    have a1 := Int.emod_nonneg (drift.toNat : Int) (show m - q + 1 ≠ 0 by omega)
    have a2 := Int.emod_lt_of_pos (drift.toNat : Int) (show 0 < m - q + 1 by omega)
    exact ⟨_, rfl, a1, by omega⟩
  rw [ht]
  refine Tot.chk (by unfold InI64; omega) (Tot.chk (by unfold InI64; omega) (Tot.chk (by omega) (Tot.chk (by unfold InI64; omega) (Tot.chk (by unfold InI64; omega) ?_))))
  refine Tot.bindeq (p_Keeps (by simp) (by simp) (by simp) (fun n hn => by simp at hn) (fun r hr => by rw [List.mem_singleton.1 hr]; exact hid)) ?_
  have hk : keepIds [] [room] [(⟨room.Client, room.Ino, 2, (⟨0, 0⟩ : api_Span), from_ + ((n : Int) + 3), 0⟩ : api_Lease)] (from_ + (q + t)) = if q + t < (n : Int) + 3 then [room.Id] else [] := by
    unfold keepIds openB
    by_cases h : q + t < (n : Int) + 3
    · rw [if_pos h]
      have : from_ + ((n : Int) + 3) > from_ + (q + t) := by omega
      simp [this]
    · rw [if_neg h]
      have : ¬ from_ + ((n : Int) + 3) > from_ + (q + t) := by omega
      simp [this]
  rw [hk]
  refine Tot.ite (fun hge => ?_) fun hlt => ?_
  · refine Tot.bind (R := (· = true)) (Tot.bind (R := (· = true)) (Tot.cond rfl (Tot.bind (R := (· = true)) (Tot.ite (fun _ => Tot.ret rfl) fun hne => ?_) fun _ h => Tot.ret h)) fun _ h => Tot.ret h) fun _ h => Tot.ret h
    by_cases h : q + t < (n : Int) + 3
    · rw [if_pos h, sortU_one]
      exact Tot.bind ((p_RInts _ _ (by simp)).mono fun _ h => h.2 rfl) fun _ h => Tot.ret h
    · rw [if_neg h, sortU_nil] at hne; simp at hne
  · have hlt : q < 1 + (n : Int) := by simpa using hlt
    have hm3 := hqm.2.2.2 (by omega)
    rw [if_pos (show q + t < (n : Int) + 3 by omega), sortU_one]
    exact Tot.bind (R := (· = true)) (Tot.bind (R := (· = true)) (Tot.cond rfl (Tot.bind ((p_RInts _ _ (by simp)).mono fun _ h => h.2 rfl) fun _ h => Tot.ret h)) fun _ h => Tot.ret h) fun _ h => Tot.ret h
end Go.Proofs
