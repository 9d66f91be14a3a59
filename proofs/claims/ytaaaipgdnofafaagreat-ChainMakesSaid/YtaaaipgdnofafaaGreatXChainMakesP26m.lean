/- Chains, plain: what is taken over of disks and copies. No condition. -/
import Derived.Test.YtaaaipgdnofafaaGreatXChainMakesP26l
import Derived.Test.YtaaaipgdnofafaaGreatXChainMakesCatP1
import Derived.Test.YtaaaipgdnofafaaGreatXChainMakesIn
namespace Go.Proofs
set_option linter.all false
open Go Go.Cat
set_option linter.all false
noncomputable def getN (d : api_Disk) (id : Int) : api_Copy × Int := (chunk_Get d id).getD (⟨0, 0, [], []⟩, 0)
section
variable {d d' : api_Disk}
theorem p_GetN (hd : smallD d) (id : Int) : chunk_Get d id = some (getN d id) := by
 obtain ⟨r, h, _⟩ := t_GetS d id hd
 unfold getN; rw [h]; rfl
end
theorem filter_snoc {α : Type} (p : α → Bool) (l : List α) (x : α) : (l ++ [x]).filter p = if p x = true then l.filter p ++ [x] else l.filter p := by
 rw [List.filter_append]
 cases h : p x <;> simp [h]
theorem uniq_asc {l : List api_Page} : uniq l ↔ Asc l := by
 unfold uniq Asc
 rw [List.pairwise_iff_getElem]
 constructor
 ·intro h i j hi hj hij
  exact h i j hij _ _ (List.getElem?_eq_getElem hi) (List.getElem?_eq_getElem hj)
 ·intro h i j hij p q hp hq
  obtain ⟨hi, rfl⟩ := List.getElem?_eq_some_iff.1 hp
  obtain ⟨hj, rfl⟩ := List.getElem?_eq_some_iff.1 hq
  exact h i j hi hj hij
structure Fit (d : api_Disk) (n : Nat) : Prop where
 t : d.Synced.length + d.Loose.length ≤ n
 x : ∀ p, p ∈ d.Synced ++ d.Loose → p.Data.length ≤ 200 ∧ InI64 p.At
 a : Asc d.Synced
theorem Fit.ok {d : api_Disk} {n : Nat} (h : Fit d n) : OkD d n := ⟨by have := h.t; omega, by have := h.t; omega, fun p hp => ⟨by have := (h.x p hp).1; omega, (h.x p hp).2⟩⟩
theorem Fit.small {d : api_Disk} {n : Nat} (h : Fit d n) (hn : n ≤ 500) : smallD d := (h.ok.mono hn).small
theorem Fit.uniq {d : api_Disk} {n : Nat} (h : Fit d n) : uniq d.Synced := uniq_asc.2 h.a
theorem Fit.mono {d : api_Disk} {n m : Nat} (h : Fit d n) (e : n ≤ m) : Fit d m := ⟨Nat.le_trans h.t e, h.x, h.a⟩
def syncD (d : api_Disk) : api_Disk := ⟨laidN d.Synced d.Loose, [], false⟩
theorem Fit.sync {d : api_Disk} {n : Nat} (h : Fit d n) : Fit (syncD d) n := ⟨by
 have := laid_len d.Synced d.Loose; have := h.t
 show (laidN d.Synced d.Loose).length + 0 ≤ n; omega, fun p hp => laid_all h.x p (by simpa [syncD] using hp), laid_asc _ _⟩
theorem write_fit {d : api_Disk} {n : Nat} {a : Int} {x : List UInt8} (h : Fit d n) (hz : (writeN d a x).2 = 0) : (writeN d a x).1 = ⟨d.Synced, d.Loose ++ [⟨a, x⟩], false⟩ ∧ d.Down = false ∧ mayN a x.length ∧ Fit (writeN d a x).1 (n + 1) := by
 unfold writeN at hz ⊢
 by_cases h1 : d.Down = true
 ·rw [if_pos h1] at hz; cases hz
 ·rw [if_neg h1] at hz ⊢
  by_cases h2 : mayN a x.length
  ·rw [if_pos h2]
   have hd : d.Down = false := by simpa using h1
   refine ⟨by rw [hd], hd, h2, ?_, ?_, h.a⟩
   ·have := h.t; simp only [List.length_append, List.length_cons, List.length_nil]; omega
   ·intro p hp
    simp only [List.mem_append, List.mem_singleton] at hp
    rcases hp with hp | hp | rfl
    ·exact h.x p (List.mem_append_left _ hp)
    ·exact h.x p (List.mem_append_right _ hp)
    ·unfold mayN at h2; exact ⟨by dsimp only; omega, by unfold InI64; dsimp only; omega⟩
  ·rw [if_neg h2] at hz; cases hz
def isS (D : List api_Disk) (s : Int) : Prop := 0 ≤ s ∧ s < (D.length : Int)
noncomputable def atS (D : List api_Disk) (s : Int) : api_Disk := D.getD s.toNat d0'
 where d0' : api_Disk := ⟨[], [], false⟩
theorem at_get {D : List api_Disk} {s : Int} (h : isS D s) : D[s.toNat]? = some (atS D s) := by
 unfold atS; rw [List.getD_eq_getElem?_getD]
 obtain ⟨h1, h2⟩ := h
 rw [List.getElem?_eq_getElem (by omega)]; rfl
theorem at_idx {D : List api_Disk} {s : Int} (h : isS D s) : idx D s = some (atS D s) := by
 unfold idx; rw [if_pos h.1, at_get h]
theorem at_mem {D : List api_Disk} {s : Int} (h : isS D s) : atS D s ∈ D := List.mem_of_getElem? (at_get h)
theorem at_of {D : List api_Disk} {s : Int} {d : api_Disk} (h0 : 0 ≤ s) (h : D[s.toNat]? = some d) : isS D s ∧ atS D s = d := by
 have hi : isS D s := ⟨h0, by have := (List.getElem?_eq_some_iff.1 h).1; omega⟩
 exact ⟨hi, Option.some.inj ((at_get hi).symm.trans h)⟩
theorem put_fit {d : api_Disk} {n : Nat} {c : api_Copy} (h : Fit d n) (hz : (putN d c).2 = 0) : mayP c ∧ putN d c = writeN d c.Id (pageN c) ∧ (putN d c).1.Down = false ∧ Fit (putN d c).1 (n + 1) := by
 unfold putN at hz ⊢
 by_cases hm : mayP c
 ·rw [if_pos hm] at hz ⊢
  obtain ⟨h1, h2, h3, h4⟩ := write_fit h hz
  exact ⟨hm, rfl, by rw [h1], h4⟩
 ·rw [if_neg hm] at hz; cases hz
theorem there_set {S L : List api_Page} {i : Int} {x : List UInt8} (hw : withinP i) (o : Int) : thereN (syncD ⟨S, L ++ [⟨i, x⟩], false⟩) o = if o = i then (if x = [] then ([], 41) else (x, 0)) else thereN ⟨S, L, false⟩ o := by
 have e := there_laid S (L ++ [⟨i, x⟩]) o
 refine Eq.trans e ?_
 by_cases ho : o = i
 ·subst ho
  have hm : mayN o 0 := by unfold mayN; unfold withinP at hw; omega
  unfold thereN
  rw [if_pos hw, if_pos rfl, read_add_same (by simp) hm]
  by_cases hx : x = []
  ·rw [if_pos ⟨rfl, hx⟩, if_pos hx]
  ·rw [if_neg (fun h => hx h.2), if_neg hx]
 ·rw [if_neg ho, there_other ho]
theorem Fit.put {S L : List api_Page} {n : Nat} {i : Int} {x : List UInt8} {b : Bool} (h : Fit ⟨S, L, b⟩ n) (hi : InI64 i) (hx : x.length ≤ 200) : Fit (syncD ⟨S, L ++ [⟨i, x⟩], false⟩) (n + 1) := by
 refine Fit.sync ⟨?_, fun p hp => ?_, h.a⟩
 ·have := h.t; simp only [List.length_append, List.length_cons, List.length_nil] at *; omega
 ·simp only [List.mem_append, List.mem_singleton] at hp
  rcases hp with hp | hp | rfl
  ·exact h.x p (List.mem_append_left _ hp)
  ·exact h.x p (List.mem_append_right _ hp)
  ·exact ⟨hx, hi⟩
theorem within_i64 {i : Int} (h : withinP i) : InI64 i := by unfold withinP at h; unfold InI64; omega
theorem page_ne (c : api_Copy) : pageN c ≠ [] := fun e => by
 have := congrArg List.length e
 unfold pageN tailN at this
 simp at this
theorem put_view {d : api_Disk} {n : Nat} {c : api_Copy} (hf : Fit d n) (hd : d.Down = false) (hc : mayP c) (hp : (pageN c).length ≤ 200) :
  (putN d c).2 = 0 ∧ Fit (syncD (putN d c).1) (n + 1) ∧ ∀ o, thereN (syncD (putN d c).1) o = if o = c.Id then (pageN c, 0) else thereN d o := by
 obtain ⟨S, L, b⟩ := d
 dsimp only at hd; subst hd
 have hw : withinP c.Id := by have := hc.1; unfold withinP; omega
 have hm : mayN c.Id (pageN c).length := by unfold mayN; unfold withinP at hw; omega
 have e : putN ⟨S, L, false⟩ c = (⟨S, L ++ [⟨c.Id, pageN c⟩], false⟩, 0) := by
  unfold putN; rw [if_pos hc]; unfold writeN; rw [if_neg (by simp), if_pos hm]
 rw [e]
 refine ⟨rfl, hf.put (within_i64 hw) hp, fun o => ?_⟩
 rw [there_set hw o, if_neg (page_ne c)]
theorem p_Contains (l : List Int) (x : Int) (h : l.length ≤ 100000) : slices_Contains_int_int l x = some (decide (x ∈ l)) := by
 refine Tot.eq ?_
 unfold slices_Contains_int_int
 refine Tot.bind (R := fun r => 0 ≤ r ↔ x ∈ l) ?_ fun r hr => Tot.ret (by rw [decide_eq_decide]; exact hr)
 unfold slices_Index_int_int slices_Index_int_int_L1
 refine Tot.each0 (l := l) (fun n => x ∉ l.take n) (fun n y hlt hy hi => ?_) (fun hi => ?_) (by simp)
 ·unfold slices_Index_int_int_B1
  refine Tot.cond (by simp; omega) (Tot.bindeq (idx_some hy) (Tot.ite (fun h => Tot.out (Tot.ret ⟨fun _ => ?_, fun _ => by omega⟩)) fun h => Tot.chk (by unfold InI64; omega) (Tot.inl ⟨rfl, ?_⟩)))
  ·have : x = y := by simpa using h
   rw [this]; exact List.mem_of_getElem? hy
  ·rw [take_snoc hy]
   simp only [List.mem_append, List.mem_singleton, not_or]
   exact ⟨hi, by simpa using h⟩
 ·unfold slices_Index_int_int_B1 slices_Index_int_int_J1
  rw [List.take_length] at hi
  exact Tot.ncond (by simp) (Tot.out (Tot.ret ⟨fun h => by omega, fun h => (hi h).elim⟩))
theorem packN_le {u : Nat} (j : Nat) (h : u < 128 ^ (j + 1)) : (packN u).length ≤ j + 1 := sevens_len 10 j u h
theorem nums5 : ∀ l : List Nat, (∀ x ∈ l, x < 4294967296) → (numsN (l.map Int.ofNat)).length ≤ 5 * l.length
 | [], _ => by simp [numsN]
 | n :: l, h => by
  have hn := h n (List.mem_cons_self ..)
  have hz : zig (Int.ofNat n) < 128 ^ (4 + 1) := by
   unfold zig
   show (if (n : Int) < 0 then _ else _) < _
   rw [if_neg (by omega)]
   show (2 * (n : Int)).toNat < 34359738368
   omega
  have h1 := packN_le 4 hz
  have h2 := nums5 l fun x hx => h x (List.mem_cons_of_mem _ hx)
  unfold numsN at h2 ⊢
  simp at h1 h2 ⊢; omega
def msk (bit : Int) : UInt8 := toU8 (shlK .u8 1 (Int.tmod bit 8))
theorem p_New (id ver : Int) (data : List UInt8) (h : data.length ≤ 100000) : chunk_New id ver data = some ⟨id, ver, data, (blocksN data).map Int.ofNat⟩ := by
 unfold chunk_New
 rw [p_Clone_byte _ (by omega), Option.bind_some, p_Blocks _ (by omega), Option.bind_some]
def pg (c : api_Copy) (q : List UInt8) : api_Disk := ⟨[⟨c.Id, q⟩], [], false⟩
section
variable {c : api_Copy} {q : List UInt8}
end
end Go.Proofs
