/- Maps by numbers: made, and written to. No condition. -/
import Derived.Test.YtkbkfcehehofnaaCatK
namespace Go.Cat
set_option linter.all false
open Go.RowKit
variable [M : Mono]

section
variable {P : Program} {T : TT} {w : World} {F : Nat → Prop} {β : Nat → Value} {st : ASt} {k : AV → ASt → Prop}

theorem eMakeMap_sound {t d : Nat} (hd : d < 1000) (hT : TOk P T) (hI : Inv w F β st.H) (h : eMakeMap T t d st k) : EOut P (do pure (.value (← Instr.makeMap t none))) w F β st k := by
  unfold eMakeMap at h
  split at h
  · rename_i ti hti
    split at h
    · rename_i kt e hk
      split at h
      · rename_i ik ie hik hie
        split at h
        · have hrun : (Instr.makeMap t none).run P w = .ok (.map (some w.heap.size)) (w.alloc (.map #[] 0)) := by simp [Instr.makeMap, newObj, Sem.run]
          have hb := below_alloc w (.map #[] 0)
          have hnew : (w.alloc (.map #[] 0)).heap[w.heap.size]? = some (.map #[] 0) := (Go.MapKept.heap_alloc w _).1
          refine EOut.value hrun ⟨_, _, F, fun q => if q = d then .map (some w.heap.size) else β q, h, .m (by simp), ext_bind (v := .map (some w.heap.size)) hd hI hb.os hb.tape hb.output hb.size (fun b hb' _ => hb.block b hb') (fun i c' b _ hm hb' => hb.block b (hI.owned_lt ⟨i, c', hm, hb'⟩)) (fun b hb' => .inl ?_) ?_⟩
          · simp [blkOf] at hb'; omega
          · exact ⟨w.heap.size, #[], 0, by simp, hnew, Go.MapKept.stamped_empty 0, rfl, by simp, fun i r hi => by simp at hi⟩
        · exact h.elim
      · exact h.elim
    · exact h.elim
  · exact h.elim

theorem set_map_other {w : World} {b b' : Nat} (o : Obj) (h : b' ≠ b) : ({ w with heap := w.heap.setIfInBounds b o } : World).heap[b']? = w.heap[b']? := by
  simp [Array.getElem?_setIfInBounds, Ne.symm h]

theorem eMapUpdate_sound {t : Nat} {m i y : AV} {vm vi vy : Value} (hT : TOk P T) (hI : Inv w F β st.H) (hm : Rd w F β m vm) (hi : Rd w F β i vi) (hy : Rd w F β y vy) (h : eMapUpdate T t m i y st k) :
    EOut P (do Instr.mapUpdate t vm vi vy; pure .skip) w F β st k := by
  unfold eMapUpdate at h
  split at h
  · rename_i ti hti
    split at h
    · rename_i kt e hk
      have hu := (hT _ _ hti).map hk
      split at h
      · rename_i ik hik
        split at h
        · rename_i id n hkk
          have hd := (hT _ _ hik).int hkk
          cases hi.v_inv
          split at h
          · rename_i ag rows hc
            split at h
            · rename_i yc hyc
              obtain ⟨hn, hlen, R, rfl, hk'⟩ := h
              have hmem := findC_mem hc
              obtain ⟨b, hβ, rfl⟩ := hm.m_inv
              obtain ⟨b', es, ck, hβ', hh, hst, hs, hmx, hrr⟩ := hI.holds _ _ hmem
              rw [hβ] at hβ'; cases hβ'
              have hbl : b < w.heap.size := blk_lt_of_heap hh
              have hg := Go.MapKept.run_getObj_map (P := P) hh
              have hck := Go.MapKept.run_checkKey (P := P) (w := w) (k := .int .i64 n) hd rfl false 9999
              obtain ⟨hall, hf⟩ := find_row hst hs hrr n
              have hyr := mval_rd hyc hy
              have hblk : blkOf (β id) = some b := by rw [hβ]; rfl
              have fin : ∀ (es' : Array MapEntry) (ck' : Nat), (Instr.mapUpdate t (.map (some b)) (.int .i64 n) vy).run P w = .ok () { w with heap := w.heap.setIfInBounds b (.map es' ck') } →
                  Go.MapKept.Stamped es' ck' → es'.size = (mset n yc rows).length → es'.size ≤ 140737488355328 →
                  (∀ (i : Nat) (r : Int × List AV), (mset n yc rows)[i]? = some r → ∃ e : MapEntry, es'[i]? = some e ∧ e.key = .int .i64 r.1 ∧ InI64 r.1 ∧ RdI w F (vOf ag r.2) e.val) →
                  EOut P (do Instr.mapUpdate t (.map (some b)) (.int .i64 n) vy; pure .skip) w F β st k := fun es' ck' hrun h1 h2 h3 h4 => by
                have hag : Agree F w { w with heap := w.heap.setIfInBounds b (.map es' ck') } := fun q hq => set_map_other _ fun e => hI.apart b ⟨id, _, hmem, hblk⟩ (e ▸ hq)
                refine EOut.skip hrun ⟨_, _, F, β, hk', .i (.v (.inr rfl)), ext_set hI hmem rfl ⟨rfl, fun _ => Nat.le_refl _⟩ rfl (by simp) (fun b' hb' => set_map_other _ fun e => hb' (by rw [hblk, e])) ?_⟩
                refine ⟨b, es', ck', hβ, (Go.MapKept.heap_set hh).1, h1, h2, h3, fun i r hir => ?_⟩
                obtain ⟨e, g1, g2, g3, g4⟩ := h4 i r hir
                exact ⟨e, g1, g2, g3, g4.frame hag fun _ h => h⟩
              rcases hf with ⟨h1, h2, h3⟩ | ⟨j, e0, c', h1, h2, hke, h3, h4, _, h6⟩
              · have hfk := Go.MapKept.run_findKey (P := P) (w := w) hd h1
                have hms : mset n yc rows = rows ++ [(n, yc)] := by
                  rcases mget_at n yc rows with ⟨_, h, _⟩ | ⟨j, c, _, h, _⟩
                  · exact h
                  · rw [h2] at h; cases h
                refine fin (es.push { key := .int .i64 n, val := vy, born := ck }) (ck + 1) ?_ (Go.MapKept.stamped_push hst h3) (by rw [hms]; simp [hs]) (by simp; omega) (fun i r hir => ?_)
                · have hso := Go.MapKept.run_setObj_map (P := P) (.map (es.push { key := .int .i64 n, val := vy, born := ck }) (ck + 1)) hh
                  simp [Instr.mapUpdate, run_underlying hu, hg, hck, hfk, hso]
                · rw [hms] at hir
                  rcases Nat.lt_or_ge i rows.length with hlt | hge
                  · rw [List.getElem?_append_left hlt] at hir
                    obtain ⟨e, g1, g2⟩ := hrr i r hir
                    exact ⟨e, by rw [Array.getElem?_push, if_neg (by omega)]; exact g1, g2⟩
                  · rw [List.getElem?_append_right hge] at hir
                    have hi0 : i - rows.length = 0 := by
                      have := (List.getElem?_eq_some_iff.1 hir).1; simpa using this
                    rw [hi0] at hir
                    cases hir
                    exact ⟨_, by rw [Array.getElem?_push, if_pos (by omega)], rfl, hn, hyr⟩
              · have hfk := Go.MapKept.run_findKey (P := P) (w := w) hd h1
                have hjl : j < es.size := (Array.getElem?_eq_some_iff.1 h2).1
                have hks := Go.MapKept.run_keyThatStays (P := P) (w := w) (d := .int .i64) (k := .int .i64 n) rfl
                let es' := es.modify j fun e => { e with key := .int .i64 n, val := vy }
                have hget : ∀ i, es'[i]? = if j = i then (es[i]?).map (fun e => { e with key := .int .i64 n, val := vy }) else es[i]? := fun i => Array.getElem?_modify
                refine fin es' ck ?_ (Go.MapKept.stamped_modify hst j _ (fun _ _ => rfl) fun e _ he => by rw [h2] at he; cases he; exact hke.symm) (by rw [h6]; simp [es', hs]) (by simpa [es'] using hmx) (fun i r hir => ?_)
                · have hso := Go.MapKept.run_setObj_map (P := P) (.map es' ck) hh
                  simp [Instr.mapUpdate, run_underlying hu, hg, hck, hfk, h2, hke, hks, hso, es']
                · rw [h6, List.getElem?_set] at hir
                  rw [hget]
                  by_cases hji : j = i
                  · subst hji
                    rw [if_pos rfl, if_pos (by omega)] at hir
                    cases hir
                    rw [if_pos rfl, h2]
                    exact ⟨_, rfl, rfl, hn, hyr⟩
                  · rw [if_neg hji] at hir
                    rw [if_neg hji]
                    exact hrr i r hir
            · exact h.elim
          · exact h.elim
        · exact h.elim
      · exact h.elim
    · exact h.elim
  · exact h.elim
end
end Go.Cat
