/- What a sort by a comparison hands back, as a word of the plain programs: the library's own plain twin; a permutation, in order. No condition. -/
import Derived.Test.YtcbpphgndncebaaCatW
import Derived.Sort.AssemblyPlain
import Derived.Lib.BitFns
namespace Go.Cat
set_option linter.all false
open Go.Sort

/-- The comparison c is the whole function cf, and 'cf x y < 0' is a strict weak order. -/
def CmpIs {α : Type} (c : α → α → Option Int) (cf : α → α → Int) : Prop := (∀ x y, c x y = some (cf x y)) ∧ SWO (fun x y => decide (cf x y < 0))

theorem CmpIs.uniq {α : Type} {c : α → α → Option Int} {cf cf' : α → α → Int} (h : CmpIs c cf) (h' : CmpIs c cf') : cf = cf' :=
  funext fun x => funext fun y => Option.some.inj ((h.1 x y).symm.trans (h'.1 x y))

/-- The library's row, sorted. -/
def sortBy {α : Type} [Inhabited α] (cf : α → α → Int) (l : List α) : List α := (pdq (fun x y => decide (cf x y < 0)) l.toArray 0 l.length (Lib.bitLen l.length) true true).toList

open Classical in
/-- A row sorted by a comparison. -/
noncomputable def sortF {α : Type} [Inhabited α] (c : α → α → Option Int) (l : List α) : Option (List α) := chk (l.length ≤ 140737488355328) (if h : ∃ cf, CmpIs c cf then some (sortBy h.choose l) else none)

theorem sortF_eq {α : Type} [Inhabited α] {c : α → α → Option Int} {cf : α → α → Int} (h : CmpIs c cf) {l : List α} (hl : l.length ≤ 140737488355328) : sortF c l = some (sortBy cf l) := by
  unfold sortF
  rw [chk_pos hl]
  have hex : ∃ cf, CmpIs c cf := ⟨cf, h⟩
  rw [dif_pos hex, hex.choose_spec.uniq h]

theorem sortF_some {α : Type} [Inhabited α] {c : α → α → Option Int} {l r : List α} (h : sortF c l = some r) : l.length ≤ 140737488355328 ∧ ∃ cf, CmpIs c cf ∧ r = sortBy cf l := by
  unfold sortF at h
  obtain ⟨hl, h⟩ := chk_some h
  refine ⟨hl, ?_⟩
  split at h
  · rename_i hex; cases h; exact ⟨_, hex.choose_spec, rfl⟩
  · cases h

theorem sortBy_spec {α : Type} [Inhabited α] {cf : α → α → Int} (h : SWO (fun x y => decide (cf x y < 0))) (l : List α) : (sortBy cf l).Perm l ∧ (sortBy cf l).Pairwise (fun x y => ¬ cf y x < 0) := by
  have hs := pdq_sorts (fun x y => decide (cf x y < 0)) h l.toArray 0 l.length (Lib.bitLen l.length) true true (Nat.zero_le _) (by simp) (Or.inl rfl)
  obtain ⟨⟨hsz, _, hp⟩, ho⟩ := hs
  unfold sortBy
  generalize pdq (fun x y => decide (cf x y < 0)) l.toArray 0 l.length (Lib.bitLen l.length) true true = d at *
  have hd : d.size = l.length := by simpa using hsz
  refine ⟨?_, ?_⟩
  · have e1 : d.extract 0 l.length = d := by rw [← hd]; simp
    have e2 : l.toArray.extract 0 l.length = l.toArray := by simp
    rw [e1, e2] at hp
    simpa using hp
  · rw [List.pairwise_iff_getElem]
    intro i j hi hj hij
    have hj' : j < l.length := by simpa [hd] using hj
    have := ho i j (Nat.zero_le _) hij hj'
    have gi : d[i]! = d.toList[i] := by rw [getElem!_pos d i (by omega)]; simp
    have gj : d[j]! = d.toList[j] := by rw [getElem!_pos d j (by omega)]; simp
    rw [gi, gj] at this
    simpa using this

/-- What the sort hands back: a permutation, in order. -/
theorem sortF_ok {α : Type} [Inhabited α] {c : α → α → Option Int} {cf : α → α → Int} (h : CmpIs c cf) {l : List α} (hl : l.length ≤ 140737488355328) : ∃ r, sortF c l = some r ∧ r.Perm l ∧ r.Pairwise (fun x y => ¬ cf y x < 0) :=
  ⟨_, sortF_eq h hl, sortBy_spec h.2 l⟩
end Go.Cat
