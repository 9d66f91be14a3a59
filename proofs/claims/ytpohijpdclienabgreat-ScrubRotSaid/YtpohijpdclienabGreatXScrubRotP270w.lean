/- Rot, plain: found, and mended. No condition. -/
import Derived.Test.YtpohijpdclienabGreatXScrubRotP270v
import Derived.Test.YtpohijpdclienabGreatXScrubRotIn
namespace Go.Proofs
set_option linter.all false
open Go Go.Cat
set_option linter.all false
theorem p_New (id ver : Int) (data : List UInt8) (h : data.length ≤ 100000) : chunk_New id ver data = some ⟨id, ver, data, (blocksN data).map Int.ofNat⟩ := by
 unfold chunk_New
 rw [p_Clone_byte _ (by omega), Option.bind_some, p_Blocks _ (by omega), Option.bind_some]
def pg (c : api_Copy) (q : List UInt8) : api_Disk := ⟨[⟨c.Id, q⟩], [], false⟩
section
variable {c : api_Copy} {q : List UInt8}
theorem laid_one (p : api_Page) : laidN [] [p] = [p] := by
 unfold laidN keysI byM
 simp [mset, mget]
theorem pg_fit (hw : withinP c.Id) (hq : q.length ≤ 200) : Fit (pg c q) 1 := ⟨by simp [pg], fun p hp => by
 have : p = ⟨c.Id, q⟩ := by simpa [pg] using hp
 rw [this]; exact ⟨hq, within_i64 hw⟩, by simp [pg, Asc]⟩
theorem pg_read (hw : withinP c.Id) : readN (pg c q) c.Id = (q, 0) := by
 have hm : mayN c.Id 0 := by unfold mayN; unfold withinP at hw; omega
 unfold readN pg
 rw [if_neg (by simp), if_pos hm]
 simp
theorem pg_there (hw : withinP c.Id) (hq : q ≠ []) : thereN (pg c q) c.Id = (q, 0) := by
 unfold thereN
 rw [if_pos hw, pg_read hw, if_neg (fun h => hq h.2)]
theorem pg_good (hc : mayP c) (hp : (pageN c).length ≤ 200) : getN (pg c (pageN c)) c.Id = (c, 0) := by
 have hw : withinP c.Id := by have := hc.1; unfold withinP; omega
 unfold getN
 rw [p_Get_there ((pg_fit hw hp).small (by omega)) hc rfl (pg_there hw (page_ne c))]; rfl
theorem pg_bad (hc : mayP c) (hq : q.length ≤ 200) (hn : q ≠ []) (hb : ∀ c', pageN c' ≠ q) : (getN (pg c q) c.Id).2 = 251 := by
 have hw : withinP c.Id := by have := hc.1; unfold withinP; omega
 have hs := getN_spec ((pg_fit hw hq).small (by omega)) c.Id
 rw [pg_there hw hn] at hs
 rw [if_pos rfl] at hs
 rcases hs.1 with h | h
 ·exact (hb _ (hs.2.2.1 h).2.2).elim
 ·exact h
theorem on_one (hc : mayP c) (hp : (pageN c).length ≤ 200) : law27_on ⟨[], [], false⟩ c = some (pg c (pageN c)) := by
 have hw : withinP c.Id := by have := hc.1; unfold withinP; omega
 have hm : mayN c.Id (pageN c).length := by unfold mayN; unfold withinP at hw; omega
 have hs := mayP_small hc
 refine Tot.eq ?_
 unfold law27_on
 have e : putN ⟨[], [], false⟩ c = (⟨[], [⟨c.Id, pageN c⟩], false⟩, 0) := by
  unfold putN; rw [if_pos hc]; unfold writeN; rw [if_neg (by simp), if_pos hm]; rfl
 refine Tot.bindeq (p_Put _ c ⟨by simp, by simp, fun p hp => by simp at hp⟩ (by have := hs.2.2.2.1; omega)) ?_
 rw [e]
 refine Tot.ncond (by simp) (Tot.bindeq (p_SyncD ⟨by simp, by simp, fun p hp => ?_⟩) (Tot.ncond (by simp) (Tot.ret ?_)))
 ·have : p = ⟨c.Id, pageN c⟩ := by simpa using hp
  rw [this]; exact ⟨by show (pageN c).length ≤ 1000; omega, within_i64 hw⟩
 ·dsimp only; rw [laid_one]; rfl
end
theorem filter_one {l : List Int} (hn : l.Nodup) {s : Int} (hs : s ∈ l) : l.filter (fun y => y == s) = [s] ∧ (l.filter fun y => y != s).length + 1 = l.length := by
 induction l with
 | nil => cases hs
 | cons x l ih =>
  rw [List.nodup_cons] at hn
  by_cases e : x = s
  ·subst e
   have h1 : l.filter (fun y => y == x) = [] := by
    rw [List.filter_eq_nil_iff]
    intro y hy h
    have : y = x := by simpa using h
    rw [this] at hy; exact hn.1 hy
   have h2 : l.filter (fun y => y != x) = l := by
    rw [List.filter_eq_self]
    intro y hy
    have : y ≠ x := fun e => hn.1 (e ▸ hy)
    simpa using this
   constructor
   ·rw [List.filter_cons, if_pos (by simp), h1]
   ·rw [List.filter_cons, if_neg (by simp), h2]; simp
  ·have hs : s ∈ l := by
    rcases List.mem_cons.1 hs with h | h
    ·exact (e h.symm).elim
    ·exact h
   obtain ⟨h1, h2⟩ := ih hn.2 hs
   constructor
   ·rw [List.filter_cons, if_neg (by simpa using e), h1]
   ·rw [List.filter_cons, if_pos (by simpa using e)]; simp only [List.length_cons]; omega
theorem r_same1 (f : api_Find) : ref27_SameFinds [f] [f] = some true := by
 refine Tot.eq ?_
 unfold ref27_SameFinds ref27_SameFinds_L1
 refine Tot.ncond (by simp) ?_
 refine Tot.each0 (l := [f]) (fun _ => True) (fun n d hlt hx _ => ?_) (fun _ => ?_) trivial
 ·unfold ref27_SameFinds_B1
  exact Tot.cond (by simp at hlt; simp [hlt]) (Tot.bindeq (idx_some hx) (Tot.bindeq (idx_some hx) (Tot.ncond (by simp) (Tot.chk (by simp at hlt; unfold InI64; omega) (Tot.inl ⟨rfl, trivial⟩)))))
 ·unfold ref27_SameFinds_B1 ref27_SameFinds_J1
  exact Tot.ncond (by simp) (Tot.out (Tot.ret rfl))
def srv (N : Nat) : List Int := (List.range N).map fun (i : Nat) => ((N : Int) - 1 - (i : Int))
theorem srv_mem {N : Nat} {y : Int} : y ∈ srv N ↔ ∃ k : Nat, k < N ∧ y = (k : Int) := by
 unfold srv; rw [List.mem_map]
 constructor
 ·rintro ⟨i, hi, rfl⟩
  have := List.mem_range.1 hi
  exact ⟨N - 1 - i, by omega, by omega⟩
 ·rintro ⟨k, hk, rfl⟩
  exact ⟨N - 1 - k, List.mem_range.2 (by omega), by omega⟩
theorem srv_len (N : Nat) : (srv N).length = N := by simp [srv]
theorem srv_nodup (N : Nat) : (srv N).Nodup := by
 unfold srv List.Nodup
 rw [List.pairwise_map]
 exact (List.pairwise_lt_range (n := N)).imp fun {a b} h => by omega
end Go.Proofs
