/- What is left of a slice of one's own, from a row on. No condition. -/
import Derived.Test.YtkbkfcehehofnaaCat7
namespace Go.Cat
set_option linter.all false
open Go.RowKit
variable [M : Mono]

section
variable {P : Program}

theorem Le.ow {id k : Nat} : Le (.o id) (.w id k 0) := fun w F β u h => by
  obtain ⟨a, n, c, hβ, rfl⟩ := h.o_inv
  exact .w hβ (Nat.zero_le _) fun _ => by cases a <;> simp [Addr.add]

theorem Fz.w {H : Hp} {id E K d : Nat} {rows : List (List AV)} (h : findC id H = some (.own E K rows)) : Fz H (.w id K d) (.s (rows.drop d)) := fun w F β u hI hr => by
  obtain ⟨a, a', n, c, hβ, hd, ha, rfl⟩ := hr.w_inv
  have hm := findC_mem h
  rcases hI.holds _ _ hm with ⟨rfl, a2, hv⟩ | ⟨g, cap, cur, hv, hc, hg, hn, hmx, hs, hK, hr⟩
  · rw [hβ] at hv
    cases hv
    have : d = 0 := by omega
    subst this
    exact .s0
  · rw [hβ] at hv
    cases hv
    have h0 : Nat.beq c 0 = false := by cases c <;> first | rfl | omega
    have hcell := (own_cell (hI.holds _ _ hm) hβ).2.2.2
    obtain ⟨u, hu⟩ := hcell
    have hlen : (rows.drop d).length = rows.length - d := by simp
    by_cases hdc : d < c
    · have ha := ha hdc
      subst ha
      have e : (Option.map (·.add (d * K)) (some (⟨g, 0, none⟩ : Addr))) = some ⟨g, d * K, none⟩ := by simp [Addr.add_lit]
      rw [e, ← hlen]
      have hrow : ∀ i, i < (rows.drop d).length → (rows.drop d).getD i [] = rows.getD (d + i) [] := fun i hi => by simp [List.getD, List.getElem?_drop]
      refine .s (off := d * K) (k := K) (u := fun i j => u (d + i) j) (.inr ⟨id, _, hm, by rw [hβ]; simp [blkOf, h0]⟩) (by omega) (by omega) (fun i hi => ?_) (fun i j hi hj => ?_) (fun i j hi hj => ?_) fun i j hi hj => ?_
      · rw [hrow i hi]; exact hK _ (by omega)
      · have := (hu (d + i) j (by omega) hj).1
        rw [← this]
        congr 2
        rw [Nat.add_mul]; omega
      · exact (hu (d + i) j (by omega) hj).2.1
      · rw [hrow i hi]
        exact (hu (d + i) j (by omega) hj).2.2.frame (fun _ _ => rfl) fun _ h => .inl h
    · have hd1 : rows.length - d = 0 := by omega
      have hc1 : c - d = 0 := by omega
      have : rows.drop d = [] := List.eq_nil_of_length_eq_zero (by omega)
      rw [hd1, hc1, this]
      exact .s0

theorem Fz.wm {α : Type} {f : α → List AV} {l : List α} {H : Hp} {id E K d : Nat} (h : findC id H = some (.own E K (l.map f))) : Fz H (.w id K d) (.s ((l.drop d).map f)) := by
  rw [List.map_drop]; exact Fz.w h

theorem idx_drop {α : Type} {l : List α} {d : Nat} {i : Int} {x : α} (h : idx (l.drop d) i = some x) : l[d + i.toNat]? = some x := by
  have := idx_get h
  rwa [List.getElem?_drop] at this
theorem idx_rowd {α : Type} {f : α → List AV} {l : List α} {d : Nat} {i : Int} {x : α} (h : idx (l.drop d) i = some x) : (l.map f)[d + i.toNat]? = some (f x) := by
  rw [List.getElem?_map, idx_drop h]; rfl
theorem idx_ltd {α : Type} {f : α → List AV} {l : List α} {d : Nat} {i : Int} {x : α} (h : idx (l.drop d) i = some x) : d + i.toNat < (l.map f).length := by
  rw [List.length_map]; exact (List.getElem?_eq_some_iff.1 (idx_drop h)).1
theorem wlen {α : Type} {f : α → List AV} (l : List α) (d : Nat) : (l.map f).length - d = (l.drop d).length := by simp
theorem wsl {α : Type} {f : α → List AV} {l : List α} {d : Nat} {i : Int} (h : (0 : Int) ≤ i ∧ (d : Int) + i ≤ (l.length : Int)) : d + i.toNat ≤ (l.map f).length := by rw [List.length_map]; omega
theorem wsl' {α : Type} {f : α → List AV} {l : List α} {d m : Nat} (h : (d : Int) + (m : Int) ≤ (l.length : Int)) : d + m ≤ (l.map f).length := by rw [List.length_map]; omega
end
end Go.Cat
