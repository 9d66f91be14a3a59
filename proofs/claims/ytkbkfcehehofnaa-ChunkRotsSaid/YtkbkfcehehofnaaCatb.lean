/- Words for maps by numbers: their numbers in order, what is read. No condition. -/
import Derived.Test.YtkbkfcehehofnaaCatW
namespace Go.Cat
set_option linter.all false
/-- The numbers of a map, in order. -/
def keysI {α : Type} (l : List (Int × α)) : List Int := (l.map (·.1)).mergeSort fun x y => decide (x ≤ y)
theorem lk_val {α β : Type} (f : α → β) {n : Int} {l : List (Int × α)} {z x : α} (h : some ((mget n l).getD z) = some x) : (mget n (l.map fun p => (p.1, f p.2))).getD (f z) = f x := by
  rw [mget_map, ← Option.some.inj h]
  cases mget n l <;> rfl
theorem lk_some {α β : Type} (f : α → β) (n : Int) (l : List (Int × α)) : (mget n (l.map fun p => (p.1, f p.2))).isSome = (mget n l).isSome := by
  rw [mget_map]
  cases mget n l <;> rfl
theorem klen {α β : Type} {f : α → β} {l : List α} {k : Nat} (h : l.length * 8 ≤ k) : (l.map f).length * 8 ≤ k := by rw [List.length_map]; exact h
theorem ksort {α β : Type} {f : α → β} {l : List (Int × α)} {x : List Int} (h : some (keysI l) = some x) : ((l.map fun p => (p.1, f p.2)).map (·.1)).mergeSort (fun a b => decide (a ≤ b)) = x := by
  rw [← Option.some.inj h, List.map_map]; rfl
end Go.Cat
