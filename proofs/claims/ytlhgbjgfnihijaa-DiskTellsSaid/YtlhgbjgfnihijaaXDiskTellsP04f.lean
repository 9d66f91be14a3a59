/- Disks, plain: the first writes. No condition. -/
import Derived.Test.YtlhgbjgfnihijaaXDiskTellsP04e
namespace Go.Proofs
set_option linter.all false
open Go Go.Cat

theorem p_Write2 (d : api_Disk) (a : Int) (x : List UInt8) (hd : d.Loose.length ≤ 1000) : disk_Write d a x = some (writeN d a x) := by
  by_cases hm : mayN a x.length
  · exact p_Write d a x hd (by have := hm.2; omega)
  · refine Tot.eq ?_
    unfold disk_Write writeN
    split
    · exact Tot.ret rfl
    · exact Tot.bind (p_dmay a x) fun b hb => Tot.cond (by cases b with | true => exact absurd (hb.1 rfl) hm | false => rfl) (Tot.ret rfl)
theorem writeT {S L : List api_Page} {a : Int} {x : List UInt8} (h : mayN a x.length) (hl : L.length ≤ 1000) : disk_Write ⟨S, L, false⟩ a x = some (⟨S, L ++ [⟨a, x⟩], false⟩, 0) := by
  rw [p_Write2 _ _ _ hl]; unfold writeN; rw [if_neg Bool.false_ne_true, if_pos h]
theorem writeF {S L : List api_Page} {a : Int} {x : List UInt8} (h : ¬ mayN a x.length) (hl : L.length ≤ 1000) : disk_Write ⟨S, L, false⟩ a x = some (⟨S, L, false⟩, 1) := by
  rw [p_Write2 _ _ _ hl]; unfold writeN; rw [if_neg Bool.false_ne_true, if_neg h]

theorem l_DiskFirst (p_d : api_Disk) (p_l : List law04_Act) (p_keep : UInt8) (p_at : Int) : law04_DiskFirst p_d p_l p_keep p_at = some true := by
  refine Tot.eq ?_
  unfold law04_DiskFirst
  refine Tot.bindeq p_head04 (Tot.bind (t_Fits04 p_d) fun x2 h2 => Tot.bind (R := fun v => v = false → (((x2 = true ∧ p_d.Down = false) ∧ p_d.Loose = []) ∧ p_l.length ≤ 60)) ?_ fun v hv => Tot.ite (fun _ => Tot.ret rfl) fun hn => ?_)
  · refine Tot.bind (R := fun v => v = false → (x2 = true ∧ p_d.Down = false)) (Tot.ite (fun _ => Tot.ret fun e => by cases e) fun hn => Tot.ret fun e => ⟨by simpa using hn, e⟩) fun c1 h1 => ?_
    refine Tot.bind (R := fun v => v = false → ((x2 = true ∧ p_d.Down = false) ∧ p_d.Loose = [])) (Tot.ite (fun _ => Tot.ret fun e => by cases e) fun hn => Tot.ret fun e => ⟨h1 (by simpa using hn), ?_⟩) fun c2 h2 => ?_
    · have : ¬ (p_d.Loose.length : Int) > 0 := of_decide_eq_false e
      exact List.eq_nil_of_length_eq_zero (by omega)
    exact Tot.bind (R := fun v => v = false → (((x2 = true ∧ p_d.Down = false) ∧ p_d.Loose = []) ∧ p_l.length ≤ 60)) (Tot.ite (fun _ => Tot.ret fun e => by cases e) fun hn => Tot.ret fun e => ⟨h2 (by simpa using hn), by have : ¬ (p_l.length : Int) > 60 := of_decide_eq_false e; omega⟩) fun _ h => Tot.ret h
  obtain ⟨⟨⟨e2, hd⟩, hl⟩, h60⟩ := hv (by simpa using hn)
  have hf := (h2 e2).1
  obtain ⟨S, L0, D⟩ := p_d
  dsimp only at hd hl
  subst hd hl
  have hS : S.length ≤ 60 := hf.s
  have hG : GoodL S := hf.gs
  unfold law04_DiskFirst_L1
  refine Tot.loop (fun s : Int × Int × (List api_Page) × (List api_Page) × Bool × (List api_Page) × (List api_Page) × Bool => ∃ (n : Nat) (L : List api_Page), s = ((L.length : Int), (n : Int), S, L, false, S, L.take p_keep.toNat, false) ∧ n ≤ p_l.length ∧ L.length ≤ n ∧ GoodL L) (fun s => ((p_l.length : Int) - s.2.1).toNat) ?_ _ ⟨0, [], by simp, by omega, by simp, fun p hp => by cases hp⟩
  rintro s ⟨n, L, rfl, hn, hL, hg⟩
  unfold law04_DiskFirst_B1
  refine Tot.ite (fun hlt => ?_) (fun hge => Tot.out ?_)
  · have hlt : n < p_l.length := by simpa using hlt
    have hx := getLt hlt
    generalize p_l[n] = x at hx
    have hL1 : L.length ≤ 1000 := by omega
    refine Tot.bindeq (idx_some hx) (Tot.bindeq (idx_some hx) ?_)
    by_cases hm : mayN x.At x.Data.length
    · refine Tot.bindeq (a := (⟨S, L ++ [⟨x.At, x.Data⟩], false⟩, 0)) (writeT hm hL1) ?_
      have hg2 : GoodL (L ++ [⟨x.At, x.Data⟩]) := good_app hg fun p hp => by rw [List.mem_singleton.1 hp]; exact hm
      refine Tot.bind (R := (· = decide ((L.length : Int) < (p_keep.toNat : Int)))) (Tot.of rfl) fun v hv => ?_
      subst hv
      refine Tot.ite (fun hk => ?_) (fun hk => ?_)
      · have hk : L.length < p_keep.toNat := by have := of_decide_eq_true hk; omega
        refine Tot.bindeq (idx_some hx) (Tot.bindeq (idx_some hx) (Tot.bindeq (a := (⟨S, L.take p_keep.toNat ++ [⟨x.At, x.Data⟩], false⟩, 0)) (writeT hm (by simp only [List.length_take]; omega)) (Tot.ncond (by show ¬ ((0 : Int) != 0) = true; decide) ?_)))
        unfold law04_DiskFirst_J3 law04_DiskFirst_J2
        refine Tot.cond rfl (Tot.chk (by dsimp only; unfold InI64; omega) (Tot.chk (by dsimp only; unfold InI64; omega) (Tot.inl ⟨⟨n + 1, L ++ [⟨x.At, x.Data⟩], ?_, by omega, by simp only [List.length_append, List.length_cons, List.length_nil]; omega, hg2⟩, by dsimp only; omega⟩)))
        rw [List.take_of_length_le (l := L) (by omega), List.take_of_length_le (by simp only [List.length_append, List.length_cons, List.length_nil]; omega)]
        simp
      · have hk : ¬ L.length < p_keep.toNat := fun h => hk (by simp; omega)
        unfold law04_DiskFirst_J3 law04_DiskFirst_J2
        refine Tot.cond rfl (Tot.chk (by dsimp only; unfold InI64; omega) (Tot.chk (by dsimp only; unfold InI64; omega) (Tot.inl ⟨⟨n + 1, L ++ [⟨x.At, x.Data⟩], ?_, by omega, by simp only [List.length_append, List.length_cons, List.length_nil]; omega, hg2⟩, by dsimp only; omega⟩)))
        rw [List.take_append_of_le_length (by omega)]
        simp
    · refine Tot.bindeq (a := (⟨S, L, false⟩, 1)) (writeF hm hL1) (Tot.bind (R := (· = false)) (Tot.of rfl) fun v hv => ?_)
      subst hv
      refine Tot.ncond (by decide) ?_
      unfold law04_DiskFirst_J3 law04_DiskFirst_J2
      exact Tot.ncond (by show ¬ ((1 : Int) == 0) = true; decide) (Tot.chk (by dsimp only; unfold InI64; omega) (Tot.inl ⟨⟨n + 1, L, by simp, by omega, by omega, hg⟩, by dsimp only; omega⟩))
  · unfold law04_DiskFirst_J1
    have hfw : Few ⟨S, L, false⟩ 60 := ⟨hS, by show L.length ≤ 60; omega, hG, hg⟩
    have hff : Few ⟨S, L.take p_keep.toNat, false⟩ 60 := ⟨hS, by show (L.take _).length ≤ 60; simp only [List.length_take]; omega, hG, fun p hp => hg p (List.mem_of_mem_take hp)⟩
    have hc := hfw.crash (p_keep.toNat : Int)
    have et : (min (max (p_keep.toNat : Int) 0) (L.length : Int)).toNat = min p_keep.toNat L.length := by omega
    have ec : crashN ⟨S, L, false⟩ (p_keep.toNat : Int) = ⟨laidN S (L.take p_keep.toNat), [], true⟩ := by
      unfold crashN
      show api_Disk.mk (laidN S (L.take (min (max (p_keep.toNat : Int) 0) (L.length : Int)).toNat)) [] true = _
      rw [et, ← List.take_eq_take_min]
    rw [ec] at hc
    have es : syncN ⟨S, L.take p_keep.toNat, false⟩ = (⟨laidN S (L.take p_keep.toNat), [], false⟩, 0) := rfl
    have hu : Few ⟨laidN S (L.take p_keep.toNat), [], false⟩ 120 := hc.up false
    refine Tot.bindeq (a := (⟨laidN S (L.take p_keep.toNat), [], false⟩, 0)) (by rw [← es]; exact p_Sync _ (hff.mono (by omega))) (Tot.bindeq (a := ⟨laidN S (L.take p_keep.toNat), [], true⟩) (by rw [← ec]; exact p_Crash _ _ (hfw.mono (by omega))) (Tot.bindeq (a := ⟨laidN S (L.take p_keep.toNat), [], false⟩) rfl (Tot.bindeq (p_Read _ _ (hu.mono (by omega)).small) (Tot.bindeq (p_Read _ _ (hu.mono (by omega)).small) (Tot.bindeq (bytes_t (by have := readN_len (hu.mono (m := 500) (by omega)).small p_at; omega) rfl) ?_)))))
    simp only [if_true, Option.bind_some, beq_self_eq_true]
    exact Tot.ret rfl
end Go.Proofs
