/- Things of one's own lent to a callee that hands back a slice of its own making. No condition. -/
import Derived.Test.YtkbkfcehehofnaaCat4
namespace Go.Cat
set_option linter.all false
open Go.RowKit
variable [M : Mono]

section
variable {P : Program}

theorem rowsPlain {α : Type} {f : α → List AV} (h : ∀ x, (f x).all plain0 = true) (l : List α) : ∀ r, r ∈ l.map f → r.all plain0 = true := fun r hr => by
  obtain ⟨x, _, rfl⟩ := List.mem_map.1 hr
  exact h x

theorem own_plain {w : World} {F F' : Nat → Prop} {β : Nat → Value} {id E K : Nat} {rows : List (List AV)} (hp : ∀ r, r ∈ rows → r.all plain0 = true) (h : Chunk.holds w F' β id (.own E K rows)) : Chunk.holds w F β id (.own E K rows) := by
  rcases h with h | ⟨g, cap, cur, hv, hc, hg, hn, hm, hs, hk, hr⟩
  · exact .inl h
  · refine .inr ⟨g, cap, cur, hv, hc, hg, hn, hm, hs, hk, fun i j hi hj => ⟨(hr i j hi hj).1, plain0_rd ?_ (hr i j hi hj).2⟩⟩
    have hrow := hp rows[i] (List.getElem_mem hi)
    have e1 : rows.getD i [] = rows[i] := by simp [List.getD, hi]
    have hlen : j < (rows[i]).length := by have := hk i hi; rw [e1] at this; omega
    rw [e1]
    exact List.all_eq_true.1 hrow _ (by rw [List.getD_eq_getElem?_getD, List.getElem?_eq_getElem hlen]; exact List.getElem_mem _)

theorem CallOk.ownLend {g : FuncId} {xs ys : List AV} {st : ASt} {E K D : Nat} {rows : List (List AV)} {k : AV → ASt → Prop} (h : POwn P g ys E K rows) (hz : FzL st.H xs ys) (hp : ∀ r, r ∈ rows → r.all plain0 = true) (hD : Nat.blt D 1000 = true)
    (hk : k (.o D) (bindSt st D (.own E K rows))) : CallOk P g xs st k := by
  obtain ⟨hl, hz⟩ := hz.spec
  refine ⟨h.1, fun w F β vs hI hs hv => ?_⟩
  have hI' : Inv w (fun b => F b ∨ Owned β st.H b) β [] :=
    ⟨fun b hb => hb.elim (hI.fsize b) hI.owned_lt, fun _ _ hm => (List.not_mem_nil hm).elim, List.nodup_nil, fun _ ⟨_, _, hm, _⟩ => (List.not_mem_nil hm).elim, fun _ _ _ _ _ hm => (List.not_mem_nil hm).elim⟩
  refine (h.2 w _ β vs hI' (by omega) fun i hi => .i (hz i (by omega) _ _ _ _ hI (hv i (by omega)))).mono ?_
  rintro e w' ⟨v, rfl, hb, F', h1, h2, h3, ⟨a, m, c, rfl⟩, h4⟩
  exact ⟨_, rfl, .o D, _, F, _, hk, .o (by simp), ext_bindF (by simpa using hD) hI hb (fun _ h => h) (fun _ h => .inl h) (fun b hb' => ⟨(h4 b hb').1, fun hF => absurd (hI.fsize b hF) (Nat.not_lt.2 (h4 b hb').1)⟩) (own_plain hp (own_any h3 _ _ (by simp)))⟩
end
end Go.Cat
