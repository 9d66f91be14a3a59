/- Chunks, plain: copies read; the document's disks. No condition. -/
import Derived.Test.YtpohijpdclienabGreatXScrubRotP270g
namespace Go.Proofs
set_option linter.all false
open Go Go.Cat
set_option linter.all false
theorem t_GetS (d : api_Disk) (id : Int) (hd : smallD d) : Tot (chunk_Get d id) (fun r => (if (thereN d id).2 = 0 then r.2 = 0 ∨ r.2 = 251 else r.2 = (thereN d id).2) ∧ (r.1.Data.length ≤ 1000 ∧ r.1.Sums.length ≤ 1000) ∧ (r.2 = 0 → mayP r.1 ∧ r.1.Id = id ∧ pageN r.1 = (thereN d id).1) ∧ (r.2 ≠ 0 → r.1 = ⟨0, 0, [], []⟩)) := by
 unfold chunk_Get
 refine Tot.bindeq (p_there d id hd) ?_
 have hl := thereN_len hd id
 refine Tot.ite (fun h => Tot.ret ⟨by rw [if_neg (by simpa using h)], by simp, fun h0 => ?_, fun _ => rfl⟩) fun h => ?_
 ·simp at h; exact (h h0).elim
 have h0 : (thereN d id).2 = 0 := by simpa using h
 have h251 : (251 : Int) = 0 → False := by decide
 simp only [if_pos h0]
 refine Tot.ite (fun _ => Tot.ret ⟨.inr rfl, by simp, fun h => (h251 h).elim, fun _ => rfl⟩) fun h4 => ?_
 have h4 : 4 ≤ (thereN d id).1.length := by simp at h4; omega
 refine Tot.chk (by unfold InI64; omega) (Tot.chk (by omega) ?_)
 refine Tot.bind (t_copy _ (by simp; omega)) fun r hr => ?_
 have hr : r.1.1.Sums.length ≤ 1000 := Nat.le_trans hr (by simp; omega)
 refine Tot.bind (R := fun v => v = false → mayP r.1.1 ∧ r.1.1.Id = id ∧ pageN r.1.1 = (thereN d id).1) ?_ fun v hv => Tot.ite (fun _ => Tot.ret ⟨.inr rfl, by simp, fun h => (h251 h).elim, fun _ => rfl⟩) (fun hn => ?_)
 ·refine Tot.bind (R := fun c => c = false → mayP r.1.1) ?_ fun c1 hc1 => ?_
  ·refine Tot.ite (fun hx => Tot.ret fun e => by cases e) fun hx => Tot.bind (p_may r.1.1 (by omega)) fun b hb => Tot.ret fun hh => hb.1 (by simpa using hh)
  refine Tot.bind (R := fun c => c = false → mayP r.1.1 ∧ r.1.1.Id = id) (Tot.ite (fun _ => Tot.ret fun e => by cases e) fun hc => Tot.ret fun e => ⟨hc1 (by simpa using hc), by simpa using e⟩) fun c2 hc2 => ?_
  refine Tot.bind (R := fun c => c = false → mayP r.1.1 ∧ r.1.1.Id = id ∧ pageN r.1.1 = (thereN d id).1) (Tot.ite (fun _ => Tot.ret fun e => by cases e) fun hc => ?_) fun c3 h => Tot.ret h
  have hp := hc2 (by simpa using hc)
  refine Tot.bindeq (p_page _ (mayP_small hp.1)) (Tot.bindeq rfl (Tot.ret fun e => ⟨hp.1, hp.2, by simpa using e⟩))
 ·have hp := hv (by simpa using hn)
  have hs := mayP_small hp.1
  exact Tot.ret ⟨.inl rfl, ⟨hs.2.2.1, hs.2.2.2.1⟩, fun _ => hp, fun h => (h rfl).elim⟩
theorem Get_congr {d d' : api_Disk} {o : Int} (hd : smallD d) (hd' : smallD d') (h : thereN d o = thereN d' o) : chunk_Get d o = chunk_Get d' o := by
 unfold chunk_Get
 rw [p_there d o hd, p_there d' o hd', h]
def uniq (l : List api_Page) : Prop := ∀ i j : Nat, i < j → ∀ p q, l[i]? = some p → l[j]? = some q → p.At < q.At
theorem mset_new {α : Type} (n : Int) (v : α) : ∀ m : List (Int × α), n ∉ m.map (·.1) → mset n v m = m ++ [(n, v)]
 | [], _ => rfl
 | (j, c) :: r, h => by
  simp only [List.map_cons, List.mem_cons, not_or] at h
  unfold mset
  rw [if_neg (fun e => h.1 e.symm), mset_new n v r h.2]; rfl
theorem mset_keys {α : Type} (n : Int) (v : α) : ∀ m : List (Int × α), n ∈ m.map (·.1) → (mset n v m).map (·.1) = m.map (·.1)
 | [], h => by simp at h
 | (j, c) :: r, h => by
  unfold mset
  by_cases e : j = n
  ·rw [if_pos e]; rfl
  ·rw [if_neg e]
   simp only [List.map_cons, List.mem_cons] at h ⊢
   rw [mset_keys n v r (h.resolve_left fun q => e q.symm)]
theorem mset_nodup {α : Type} (n : Int) (v : α) (m : List (Int × α)) (h : (m.map (·.1)).Nodup) : ((mset n v m).map (·.1)).Nodup := by
 by_cases e : n ∈ m.map (·.1)
 ·rw [mset_keys n v m e]; exact h
 ·rw [mset_new n v m e, List.map_append]
  refine List.nodup_append.2 ⟨h, by simp, fun a ha b hb => ?_⟩
  have hb : b = n := by simpa using hb
  intro hab; rw [hab, hb] at ha; exact e ha
theorem by_nodup : ∀ (l : List api_Page) (m : List (Int × api_Page)), (m.map (·.1)).Nodup → ((byM m l).map (·.1)).Nodup
 | [], _, h => h
 | p :: l, m, h => by_nodup l (mset p.At p m) (mset_nodup p.At p m h)
def Asc (l : List api_Page) : Prop := l.Pairwise fun a b => a.At < b.At
theorem keys_asc (m : List (Int × api_Page)) (h : (m.map (·.1)).Nodup) : (keysI m).Pairwise (· < ·) := by
 have h1 : (keysI m).Pairwise (fun a b => decide (a ≤ b) = true) := List.pairwise_mergeSort (fun a b c h1 h2 => by simp at h1 h2 ⊢; omega) (fun a b => by simp; omega) _
 have h2 : (keysI m).Nodup := (List.mergeSort_perm _ _).nodup_iff.2 h
 exact (h1.and h2).imp fun ⟨x, y⟩ => by simp at x; omega
theorem laid_asc (l o : List api_Page) : Asc (laidN l o) := by
 unfold Asc laidN
 rw [List.pairwise_map]
 refine (List.pairwise_iff_forall_sublist.2 fun {a b} hs => ?_)
 have hk := List.pairwise_iff_forall_sublist.1 (keys_asc _ (by_nodup (l ++ o) [] (by simp))) hs
 have at_ : ∀ k, k ∈ keysI (byM [] (l ++ o)) → ((mget k (byM [] (l ++ o))).getD (⟨0, []⟩ : api_Page)).At = k := fun k hk => by
  obtain ⟨v, hv⟩ := mem_mget (mem_keys.1 hk)
  rw [hv]
  rw [mget_by0] at hv
  exact (last_at hv).1
 rw [at_ a (hs.subset (by simp)), at_ b (hs.subset (by simp))]
 exact hk
def layN (S : List api_Page) (p : api_Page) : List api_Page := S.filter (fun x => decide (x.At < p.At)) ++ p :: S.filter (fun x => decide (p.At < x.At))
def layG (p : api_Page) (s : Bool × List api_Page) (x : api_Page) : Bool × List api_Page :=
 let s' := if (!s.1 && decide (x.At ≥ p.At)) then (true, s.2 ++ [p]) else s
 if x.At ≠ p.At then (s'.1, s'.2 ++ [x]) else s'
def syncN (d : api_Disk) : api_Disk × Int := if d.Down then (d, 40) else (⟨laidN d.Synced d.Loose, [], false⟩, 0)
end Go.Proofs
