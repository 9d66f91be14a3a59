/- The numbers of a map, in order: the library's iterator over a map's keys, and its sort of what an iterator gives, as calls. No condition. -/
import Derived.Test.YtkbkfcehehofnaaCat8
import Derived.Laws.AppendOwn
namespace Go.Cat
set_option linter.all false
open Go.RowKit
variable [M : Mono]

section
variable {P : Program}

/-- What the library says of its iterator over a map's keys: the map is boxed. -/
def KeysSays (P : Program) (g k1 : Nat) : Prop := ∀ (b : Nat) (w : World),
  Calls P g #[.map (some b)] w fun e w' => e = .returned (.func (.func k1) #[] #[.pointer (some ⟨w.heap.size, 0, none⟩)]) ∧ ∃ T, w' = w.alloc (.cells #[.map (some b)] T)

/-- What the library says of its sort of what that iterator gives. -/
def SortedSays (P : Program) (g k1 E : Nat) : Prop := ∀ (w : World) (Bm b : Nat) (es : Array MapEntry) (ck : Nat) (ks : List Int), w.cell? ⟨Bm, 0, none⟩ = some (.map (some b)) → Bm < w.heap.size →
  w.heap[b]? = some (.map es ck) → Go.MapKept.Stamped es ck → es.toList.map (·.key) = ks.map (Value.int .i64) → (∀ n, n ∈ ks → InI64 n) → ks.length * 8 ≤ 140737488355328 →
  Calls P g #[.func (.func k1) #[] #[.pointer (some ⟨Bm, 0, none⟩)]] w fun e w' => ∃ v, e = .returned v ∧
    w'.ownsRow w.heap.size E 1 v ks.length ((ks.mergeSort fun x y => decide (x ≤ y)).map (Value.int .i64)) ∧ Go.RowKit.Below w.heap.size w w'

theorem CallOk.keys {g k1 id D : Nat} {ag : Bool} {rows : List (Int × List AV)} {st : ASt} {k : AV → ASt → Prop} (hS : KeysSays P g k1) (hE : Entered P g) (hc : findC id st.H = some (.mp ag rows)) (hD : Nat.blt D 1000 = true) (hne : Nat.beq id D = false)
    (hk : k (.c (.func k1) [] [.b D 0]) (bindSt st D (.box [.m id]))) : CallOk P g [.m id] st k := by
  refine ⟨hE, fun w F β vs hI hs hv => ?_⟩
  have hidD : id ≠ D := fun e => by rw [e, Nat.beq_refl] at hne; cases hne
  obtain ⟨b, hβ, hv0⟩ := (hv 0 (by simp)).m_inv
  have hvs : vs = #[.map (some b)] := by
    apply Array.ext
    · simpa using hs
    · intro i h1 h2
      have h2 : i < 1 := h2
      have : i = 0 := by omega
      subst this
      simpa [Array.getD, h1] using hv0
  subst hvs
  refine (hS b w).mono ?_
  rintro e w' ⟨rfl, T, rfl⟩
  have hb := below_alloc w (.cells #[.map (some b)] T)
  have hnew : (w.alloc (.cells #[.map (some b)] T)).heap[w.heap.size]? = some (.cells #[.map (some b)] T) := (Go.MapKept.heap_alloc w _).1
  refine ⟨_, rfl, _, _, F, fun q => if q = D then .pointer (some ⟨w.heap.size, 0, none⟩) else β q, hk, .c rfl rfl (fun i hi => by simp at hi) (fun i hi => ?_), ext_bind (v := .pointer (some ⟨w.heap.size, 0, none⟩)) (by simpa using hD) hI hb.os hb.tape hb.output hb.size (fun b hb' _ => hb.block b hb')
    (fun i c' b _ hm hb' => hb.block b (hI.owned_lt ⟨i, c', hm, hb'⟩)) (fun b hb' => .inl ?_) ?_⟩
  · have hi : i < 1 := by simpa using hi
    have : i = 0 := by omega
    subst this
    exact .b (by simp)
  · simp [blkOf] at hb'; omega
  · refine ⟨w.heap.size, #[.map (some b)], T, by simp, hnew, rfl, fun i hi => ?_, fun i hi => ?_⟩
    · have hi : i < 1 := by simpa using hi
      have : i = 0 := by omega
      subst this
      rfl
    · have hi : i < 1 := by simpa using hi
      have : i = 0 := by omega
      subst this
      exact .m (by simp [hidD, hβ])

/-- A map's numbers, rising. -/
theorem CallOk.sortedKeys [Off] {g k1 E id D D2 : Nat} {ag : Bool} {rows : List (Int × List AV)} {xs : List Int} {st : ASt} {k : AV → ASt → Prop} (hS : SortedSays P g k1 E) (hE : Entered P g) (hb : findC D st.H = some (.box [.m id])) (hc : findC id st.H = some (.mp ag rows))
    (h8 : rows.length * 8 ≤ 140737488355328) (hx : (rows.map (·.1)).mergeSort (fun x y => decide (x ≤ y)) = xs) (hD : Nat.blt D2 1000 = true) (hk : k (.o D2) (bindSt st D2 (.own E 1 (xs.map encI)))) : CallOk P g [.c (.func k1) [] [.b D 0]] st k := by
  refine ⟨hE, fun w F β vs hI hs hv => ?_⟩
  obtain ⟨us, ws, hv0, hus, hws, _, hw⟩ := Rd.c_inv (fn := .func k1) (fs := []) (cs := [.b D 0]) (hv 0 (by simp))
  have hus0 : us = #[] := Array.eq_empty_of_size_eq_zero (by simpa using hus)
  subst hus0
  obtain ⟨blk, hβ, hw0⟩ := Rd.b_inv (hw 0 (by simp))
  have hws1 : ws = #[.pointer (some ⟨blk, 0, none⟩)] := by
    apply Array.ext
    · simpa using hws
    · intro i h1 h2
      have h2 : i < 1 := h2
      have : i = 0 := by omega
      subst this
      simpa [Array.getD, h1] using hw0
  subst hws1
  have hvs : vs = #[.func (.func k1) #[] #[.pointer (some ⟨blk, 0, none⟩)]] := by
    apply Array.ext
    · simpa using hs
    · intro i h1 h2
      have h2 : i < 1 := h2
      have : i = 0 := by omega
      subst this
      simpa [Array.getD, h1] using hv0
  subst hvs
  obtain ⟨blk', cs, T, hβ', hh, hcs, _, hr⟩ := hI.holds D _ (findC_mem hb)
  rw [hβ] at hβ'; cases hβ'
  obtain ⟨b, hβm, hcb⟩ := (hr 0 (by simp)).m_inv
  have hcell : w.cell? ⟨blk, 0, none⟩ = some (.map (some b)) := by
    rw [cell_of_row w blk _ cs T (0, 0) hh]
    have h0 : 0 < cs.size := by rw [hcs]; simp
    rw [← hcb]; simp [Array.getD, h0]
  obtain ⟨b', es, ck, hβm', hhm, hst, hsz, hmx, hrr⟩ := hI.holds id _ (findC_mem hc)
  rw [hβm] at hβm'; cases hβm'
  have hkeys : es.toList.map (·.key) = (rows.map (·.1)).map (Value.int .i64) := by
    apply List.ext_getElem?
    intro i
    rw [List.getElem?_map, List.getElem?_map, List.getElem?_map]
    cases hri : rows[i]? with
    | none =>
      have : rows.length ≤ i := by simpa using hri
      rw [show es.toList[i]? = none by simp; omega]; rfl
    | some r =>
      obtain ⟨e, h1, h2, _⟩ := hrr i r hri
      rw [show es.toList[i]? = some e by simpa using h1]
      simp [h2]
  have hbl : blk < w.heap.size := blk_lt_of_heap hh
  refine (hS w blk b es ck (rows.map (·.1)) hcell hbl hhm hst hkeys (fun n hn => ?_) (by simpa using h8)).mono ?_
  · obtain ⟨r, hr, rfl⟩ := List.mem_map.1 hn
    obtain ⟨i, hi⟩ := List.mem_iff_getElem?.1 hr
    obtain ⟨e, _, _, h3, _⟩ := hrr i r hi
    exact h3
  · rintro e w' ⟨v, rfl, hrow, hbelow⟩
    rw [hx] at hrow
    have hb2 : Below w.heap.size w w' := ⟨hbelow.os, ⟨hbelow.tape, fun m => (Off.off m).elim⟩, hbelow.output, hbelow.size, hbelow.block⟩
    obtain ⟨hlen, hrow⟩ := hrow
    have hxl : xs.length = (rows.map (·.1)).length := by simpa using hlen
    have hholds : Chunk.holds w' F (fun _ => v) 0 (.own E 1 (xs.map encI)) ∧ (∃ a n c, v = .slice a n c) ∧ ∀ b, blkOf v = some b → w.heap.size ≤ b := by
      rcases hrow with ⟨rfl, h0⟩ | ⟨g', cap, cur, rfl, hbase, hg, hn, hmx', hcur, htake⟩
      · refine ⟨.inl ⟨?_, none, rfl⟩, ⟨_, _, _, rfl⟩, fun b hb' => by simp [blkOf] at hb'⟩
        rw [List.length_eq_zero_iff.1 (show xs.length = 0 by omega)]; rfl
      · refine ⟨?_, ⟨_, _, _, rfl⟩, fun b hb' => ?_⟩
        · rcases Nat.eq_zero_or_pos cap with h0 | h0
          · refine .inl ⟨?_, some ⟨g', 0, none⟩, ?_⟩
            · rw [List.length_eq_zero_iff.1 (show xs.length = 0 by omega)]; rfl
            · subst h0
              have : (rows.map (·.1)).length = 0 := by omega
              rw [this]
          · refine .inr ⟨g', cap, cur, by simp only [List.length_map] at hxl ⊢; rw [hxl], h0, hg, by simp only [List.length_map] at hxl hn ⊢; omega, hmx', by simpa using hcur, fun i hi => ?_, fun i j hi hj => ?_⟩
            · have hi : i < xs.length := by simpa using hi
              simp [List.getD, hi, encI]
            · have hi : i < xs.length := by simpa using hi
              have hj0 : j = 0 := by omega
              subst hj0
              have hci : cur[i]? = some (.int .i64 xs[i]) := by
                have : (cur.toList.take ((rows.map (·.1)).length * 1))[i]? = some (.int .i64 xs[i]) := by rw [htake, List.getElem?_map]; simp [hi]
                rw [List.getElem?_take, if_pos (by simp only [List.length_map] at hxl ⊢; omega)] at this
                simpa using this
              have e1 : cur.getD (i * 1 + 0) undef = .int .i64 xs[i] := by
                rw [Nat.mul_one, Nat.add_zero, Array.getD_eq_getD_getElem?, hci]; rfl
              have e2 : ((xs.map encI).getD i []).getD 0 .junk = .v (.int .i64 xs[i]) := by simp [List.getD, hi, encI]
              rw [e1, e2]
              exact ⟨rfl, .v (.inl rfl)⟩
        · change (bif Nat.beq cap 0 then none else some g') = some b at hb'
          cases hc0 : Nat.beq cap 0 with
          | true => rw [hc0] at hb'; cases hb'
          | false => rw [hc0] at hb'; cases hb'; exact hbase
    obtain ⟨h3, ⟨a, m, c, rfl⟩, h4⟩ := hholds
    exact ⟨_, rfl, .o D2, _, F, _, hk, .o (by simp), ext_bindF (by simpa using hD) hI hb2 (fun _ h => h) (fun _ h => .inl h) (fun b hb' => ⟨h4 b hb', fun hF => absurd (hI.fsize b hF) (Nat.not_lt.2 (h4 b hb'))⟩) (own_any h3 _ _ (by simp))⟩
end
end Go.Cat
