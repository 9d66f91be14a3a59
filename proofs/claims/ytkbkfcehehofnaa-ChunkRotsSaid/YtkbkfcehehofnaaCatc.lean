/- Rows with slices of nothing, read as rows with empty slices. No condition. -/
import Derived.Test.YtkbkfcehehofnaaCat8
namespace Go.Cat
set_option linter.all false
variable [M : Mono]
theorem Le.snz {rows rows' : List (List AV)} (h : rows.map (fun r => r.map nz) = rows') : Le (.s rows) (.s rows') := fun w F β u hr => by
  subst h
  have hr := hr.s_inv
  refine .i ?_
  cases hr with
  | s0 => exact .s0
  | @s _ b off c k u hb hc hm hk hcell hone hrd =>
    have hg : ∀ i, i < rows.length → (rows.map (fun r => r.map nz)).getD i [] = (rows.getD i []).map nz := fun i hi => by simp [List.getD, hi]
    have h2 := RdI.s (w := w) (F := F) (rows := rows.map (fun r => r.map nz)) (b := b) (off := off) (c := c) (k := k) (u := u) hb (by simpa using hc) hm (fun i hi => by
      have hi : i < rows.length := by simpa using hi
      rw [hg i hi, List.length_map]; exact hk i hi) (fun i j hi hj => hcell i j (by simpa using hi) hj) (fun i j hi hj => hone i j (by simpa using hi) hj) (fun i j hi hj => by
      have hi : i < rows.length := by simpa using hi
      rw [hg i hi]
      have hkk := hk i hi
      have : ((rows.getD i []).map nz).getD j .junk = nz ((rows.getD i []).getD j .junk) := by
        have hj' : j < (rows.getD i []).length := by omega
        simp only [List.getD_eq_getElem?_getD, List.getElem?_map] at hj' ⊢
        rw [List.getElem?_eq_getElem hj']; rfl
      rw [this]; exact nz_rdI (hrd i j hi hj))
    simpa using h2
end Go.Cat
