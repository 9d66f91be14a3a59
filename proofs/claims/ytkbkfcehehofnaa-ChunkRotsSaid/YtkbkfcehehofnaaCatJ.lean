/- The machine agrees with 'step'. No condition. -/
import Derived.Test.YtkbkfcehehofnaaCatI
namespace Go.Cat
set_option linter.all false
open Go.RowKit
variable [M : Mono]

section
variable {P : Program} {T : TT} {w : World} {F : Nat → Prop} {β : Nat → Value} {st : ASt} {k : AV → ASt → Prop}

def EPost (w : World) (F : Nat → Prop) (β : Nat → Value) (st : ASt) (k : AV → ASt → Prop) (v : Value) (w' : World) : Prop :=
  ∃ r st' F' β', k r st' ∧ Rd w' F' β' r v ∧ Ext w F β st w' F' β' st'

def EOut (P : Program) (s : Sem Next) (w : World) (F : Nat → Prop) (β : Nat → Value) (st : ASt) (k : AV → ASt → Prop) : Prop :=
  (∃ v w', s.run P w = .ok (.value v) w' ∧ EPost w F β st k v w') ∨ (∃ w', s.run P w = .ok .skip w' ∧ EPost w F β st k undef w') ∨
  (∃ g vs, s.run P w = .ok (.enter g vs) w ∧ Calls P g vs w fun e w' => ∃ v, e = .returned v ∧ EPost w F β st k v w')

theorem quiet_out {s : Sem Next} (hI : Inv w F β st.H) (h : QOut P s w fun v w' => ∃ r, k r st ∧ Rd w' (FNew F w w') β r v) : EOut P s w F β st k := by
  rcases h with ⟨v, w', hr, hb, r, hk, hv⟩ | ⟨g, vs, hr, hc⟩
  · exact .inl ⟨v, w', hr, r, st, _, _, hk, hv, ext_quiet hI hb⟩
  · refine .inr (.inr ⟨g, vs, hr, hc.mono ?_⟩)
    rintro e w' ⟨v, rfl, hb, r, hk, hv⟩
    exact ⟨v, rfl, r, st, _, _, hk, hv, ext_quiet hI hb⟩

theorem EOut.value {s : Sem Value} {v : Value} {w' : World} (hr : s.run P w = .ok v w') (h : EPost w F β st k v w') : EOut P (do pure (.value (← s))) w F β st k :=
  .inl ⟨v, w', by simp [hr], h⟩

theorem EOut.skip {s : Sem Unit} {w' : World} (hr : s.run P w = .ok () w') (h : EPost w F β st k undef w') : EOut P (do s; pure .skip) w F β st k :=
  .inr (.inl ⟨w', by simp [hr], h⟩)

theorem okLen {x : AV} {u : Value} (h : Rd w F β x u) (hx : okCells x = true) : u.cells.size = (cellsL x).length := (cells_rd h hx).1

/-- A box is laid. -/
theorem box_out {d : Nat} {cells : List AV} {us : Array Value} {e : TypeId} (hd : d < 1000) (hI : Inv w F β st.H) (hs : us.size = cells.length) (h1 : ∀ i, i < cells.length → (us.getD i undef).oneCell' = true)
    (hr : ∀ i, i < cells.length → Rd (w.alloc (.cells us e)) F (fun i => if i = d then .pointer (some ⟨w.heap.size, 0, none⟩) else β i) (cells.getD i .junk) (us.getD i undef)) (hk : k (.b d 0) (bindSt st d (.box cells))) :
    EPost w F β st k (.pointer (some ⟨w.heap.size, 0, none⟩)) (w.alloc (.cells us e)) := by
  refine ⟨_, _, F, _, hk, .b (by simp), ext_bind (v := .pointer (some ⟨w.heap.size, 0, none⟩)) hd hI rfl ⟨rfl, fun _ => (by first | exact Nat.le_refl _ | exact Nat.le_succ _)⟩ rfl (by simp) (fun b hb _ => heap_alloc_old w _ hb) (fun i c b _ hm hb => heap_alloc_old w _ (hI.owned_lt ⟨i, c, hm, hb⟩)) (fun b hb => ?_) ?_⟩
  · simp [blkOf] at hb; left; omega
  · exact ⟨w.heap.size, us, e, by simp, heap_alloc_new w _, hs, h1, hr⟩

theorem eAlloc_sound {t d : Nat} (hd : d < 1000) (hT : TOk P T) (hI : Inv w F β st.H) (h : eAlloc T t d st k) : EOut P (do pure (.value (← Instr.alloc t true (.tuple #[])))) w F β st k := by
  unfold eAlloc at h
  split at h
  · rename_i i hi
    obtain ⟨hok, hk⟩ := cond_prop h
    have hz := (hT _ _ hi).run_zero w
    have hrun : (Instr.alloc t true (.tuple #[])).run P w = .ok (.pointer (some ⟨w.heap.size, 0, none⟩)) (w.alloc (.cells i.zero.cells t)) := by
      unfold Instr.alloc
      simp [hz, newVar, newRow]
    refine EOut.value hrun ?_
    have hr := fun β' : Nat → Value => cells_rd (ofV_rd (w.alloc (.cells i.zero.cells t)) F i.zero β') hok
    exact box_out hd hI (hr β).1 (fun j hj => ((hr β).2 j hj).1) (fun j hj => ((hr _).2 j hj).2) hk
  · exact h.elim

theorem eBox_sound {x : AV} {vx : Value} {d t : Nat} (hd : d < 1000) (hI : Inv w F β st.H) (hx : Rd w F β x vx) (h : eBox x d st k) : EOut P (do pure (.value (← Instr.box t vx))) w F β st k := by
  unfold eBox at h
  obtain ⟨hok, hk⟩ := cond_prop h
  have hrun : (Instr.box t vx).run P w = .ok (.pointer (some ⟨w.heap.size, 0, none⟩)) (w.alloc (.cells vx.cells t)) := by simp [Instr.box, newVar, newRow]
  obtain ⟨hs, hr⟩ := cells_rd hx hok
  refine EOut.value hrun (box_out hd hI (by simpa using hs) (fun j hj => (hr j (by simpa using hj)).1) (fun j hj => ?_) hk)
  have hj : j < (cellsL x).length := by simpa using hj
  have e : ((cellsL x).map (er 1 d)).getD j .junk = er 1 d ((cellsL x).getD j .junk) := by simp [List.getD, hj]
  rw [e]
  exact er_rd (fun i hi => by simp [hi]) 1 ((hr j hj).2.frame (Below.agree (below_alloc w _) hI.fsize) fun _ h => h)

theorem setC_mem {id : Nat} {c : Chunk} : ∀ {H : Hp} {i : Nat} {c' : Chunk}, (i, c') ∈ setC id c H → (i = id ∧ c' = c ∧ ∃ c'', (i, c'') ∈ H) ∨ (i ≠ id ∧ (i, c') ∈ H)
  | [], _, _, h => by cases h
  | (j, c0) :: r, i, c', h => by
    simp only [setC] at h
    cases hb : Nat.beq j id with
    | true =>
      have hj := Nat.eq_of_beq_eq_true hb
      rw [hb] at h
      simp only [cond_true, List.mem_cons, Prod.mk.injEq] at h
      rcases h with ⟨rfl, rfl⟩ | h
      · exact .inl ⟨hj, rfl, c0, by simp⟩
      · rcases setC_mem (H := r) h with ⟨h1, h2, c2, h3⟩ | ⟨h1, h2⟩
        · exact .inl ⟨h1, h2, c2, List.mem_cons_of_mem _ h3⟩
        · exact .inr ⟨h1, List.mem_cons_of_mem _ h2⟩
    | false =>
      have hj : j ≠ id := fun e => by rw [e, Nat.beq_refl] at hb; cases hb
      rw [hb] at h
      simp only [cond_false, List.mem_cons, Prod.mk.injEq] at h
      rcases h with ⟨rfl, rfl⟩ | h
      · exact .inr ⟨hj, by simp⟩
      · rcases setC_mem (H := r) h with ⟨h1, h2, c2, h3⟩ | ⟨h1, h2⟩
        · exact .inl ⟨h1, h2, c2, List.mem_cons_of_mem _ h3⟩
        · exact .inr ⟨h1, List.mem_cons_of_mem _ h2⟩

theorem setC_keys {id : Nat} {c : Chunk} : ∀ (H : Hp), (setC id c H).map (·.1) = H.map (·.1)
  | [] => rfl
  | (j, c0) :: r => by
    simp only [setC]
    cases hb : Nat.beq j id <;> simp [setC_keys r]

/-- What a chunk holds is written over. -/
theorem ext_set {id : Nat} {c c0 : Chunk} {w' : World} (hI : Inv w F β st.H) (hm : (id, c0) ∈ st.H) (hos : w'.os = w.os) (htape : SameT w w') (hout : w'.output = w.output) (hsize : w'.heap.size = w.heap.size)
    (hblock : ∀ b, blkOf (β id) ≠ some b → w'.heap[b]? = w.heap[b]?) (hc : c.holds w' F β id) : Ext w F β st w' F β ⟨st.f, setC id c st.H⟩ := by
  have hown : ∀ b, Owned β (setC id c st.H) b → Owned β st.H b := by
    rintro b ⟨i, c', h, hb⟩
    rcases setC_mem h with ⟨rfl, _, c2, h2⟩ | ⟨_, h2⟩
    · exact ⟨i, c2, h2, hb⟩
    · exact ⟨i, c', h2, hb⟩
  have ha : Agree F w w' := fun b hb => hblock b fun hbk => hI.apart b ⟨id, c0, hm, hbk⟩ hb
  refine ⟨hos, htape, hout, by omega, fun b _ ho => hblock b fun hbk => ho ⟨id, c0, hm, hbk⟩, fun _ h => h, fun _ h => .inl h, fun b h => .inr (hown b h), fun t u h => h.frame ha fun _ h => h, ?_, fun _ _ => rfl⟩
  refine ⟨fun b hb => by have := hI.fsize b hb; omega, fun i c' h => ?_, by rw [setC_keys]; exact hI.keys, fun b ho => hI.apart b (hown b ho), fun i c1 i' c1' b h h' hb hb' => ?_⟩
  · rcases setC_mem h with ⟨rfl, rfl, _⟩ | ⟨hi, h2⟩
    · exact hc
    · exact holds_frame ha (fun _ h => h) (fun b hb => hblock b fun hbk => hi (hI.disj i c' id c0 b h2 hm hb hbk)) (hI.holds i c' h2)
  · have hx : ∃ c, (i, c) ∈ st.H := by rcases setC_mem h with ⟨_, _, c2, h2⟩ | ⟨_, h2⟩ <;> exact ⟨_, h2⟩
    have hy : ∃ c, (i', c) ∈ st.H := by rcases setC_mem h' with ⟨_, _, c2, h2⟩ | ⟨_, h2⟩ <;> exact ⟨_, h2⟩
    obtain ⟨c2, h2⟩ := hx
    obtain ⟨c3, h3⟩ := hy
    exact hI.disj i c2 i' c3 b h2 h3 hb hb'

theorem stCells_len {n off : Nat} {cells : List AV} {y : AV} {K : List AV → Prop} (h : stCells n cells off y K) :
    okCells y = true ∧ (cellsL y).length = n ∧ off + n ≤ cells.length ∧ K (cells.take off ++ (cellsL y ++ cells.drop (off + n))) := by
  unfold stCells at h
  obtain ⟨hb, hk⟩ := cond_prop h
  simp only [Bool.and_eq_true] at hb
  obtain ⟨C, rfl, hk⟩ := hk
  exact ⟨hb.1, Nat.eq_of_beq_eq_true hb.2.1, by simpa using hb.2.2, hk⟩

theorem take_mid_drop {α : Type} (l m : List α) (off n : Nat) (hm : m.length = n) (hl : off + n ≤ l.length) (d : α) (j : Nat) :
    (l.take off ++ (m ++ l.drop (off + n))).getD j d = if j < off then l.getD j d else if j < off + n then m.getD (j - off) d else l.getD j d := by
  simp only [List.getD, List.getElem?_append, List.length_take, hm, List.getElem?_take, List.getElem?_drop]
  by_cases h1 : j < off
  · simp [h1, show j < min off l.length by omega]
  · by_cases h2 : j < off + n
    · simp [h1, h2, show min off l.length = off by omega, show j - off < n by omega]
    · simp [h1, h2, show min off l.length = off by omega, show ¬ j - off < n by omega, show off + n + (j - off - n) = j by omega]

theorem run_storeAt {t b off : Nat} {i : TI} {v : Value} {cur : Array Value} {e : TypeId} (hi : TIOk P t i) (hh : w.heap[b]? = some (.cells cur e (0, 0))) (hv : v.cells.size = i.cells) (hfit : off + i.cells ≤ cur.size)
    (h1 : ∀ j, j < v.cells.size → (v.cells.getD j undef).oneCell' = true) :
    (Instr.storeAt t (.pointer (some ⟨b, off, none⟩)) v).run P w = .ok () (w.setRow b (cur.toList.take off ++ v.cells.toList ++ cur.toList.drop (off + v.cells.toList.length)).toArray) := by
  have hsz := hi.run_size w
  have hst := run_storeCells_at P b off e v.cells.toList 0 cur w hh (by simp; omega) (fun x hx => by
    obtain ⟨j, hj, rfl⟩ := List.mem_iff_getElem.1 hx
    have hj : j < v.cells.size := by simpa using hj
    have := h1 j hj
    simpa [hj] using this)
  simp only [Nat.add_zero] at hst
  simp [Instr.storeAt, Instr.sureAddr, storeVar, hsz, hv, hst]

theorem rd_after {b : Nat} {cs : Array Value} (hI : Inv w F β st.H) (ho : Owned β st.H b) {x : AV} {u : Value} (h : Rd w F β x u) : Rd (w.setRow b cs) F β x u :=
  h.frame (fun b' hb' => setRow_other w b b' cs fun e => hI.apart b ho (e ▸ hb')) fun _ h => h


theorem arr_mid (l m : List Value) (off n : Nat) (hm : m.length = n) (hl : off + n ≤ l.length) (d : Value) (j : Nat) :
    (l.take off ++ m ++ l.drop (off + m.length)).toArray.getD j d = if j < off then l.getD j d else if j < off + n then m.getD (j - off) d else l.getD j d := by
  have := take_mid_drop l m off n hm hl d j
  rw [hm, List.append_assoc]
  simpa [Array.getD_eq_getD_getElem?, List.getD] using this

theorem eStore_sound {t : Nat} {x y : AV} {vx vy : Value} (hT : TOk P T) (hI : Inv w F β st.H) (hx : Rd w F β x vx) (hy : Rd w F β y vy) (h : eStore T t x y st k) :
    EOut P (do Instr.storeAt t vx vy; pure .skip) w F β st k := by
  unfold eStore at h
  split at h
  · rename_i i hi
    split at h
    · rename_i id off
      split at h
      · rename_i cells hc
        obtain ⟨hok, hlen, hle, hk⟩ := stCells_len h
        have hm := findC_mem hc
        obtain ⟨b, cur, e, hβ, hh, hs, h1, hr⟩ := hI.holds _ _ hm
        obtain ⟨blk, hb, rfl⟩ := hx.b_inv
        rw [hβ] at hb
        cases hb
        obtain ⟨hy1, hy2⟩ := cells_rd hy hok
        have hys : vy.cells.size = i.cells := by rw [hy1, hlen]
        have hcs : off + i.cells ≤ cur.size := by rw [hs]; exact hle
        have hrun := run_storeAt (off := off) (hT _ _ hi) hh hys hcs (fun j hj => (hy2 j (by omega)).1)
        have hyl : vy.cells.toList.length = i.cells := by simpa using hys
        refine EOut.skip hrun ⟨_, _, F, β, hk, .i (.v (.inr rfl)), ?_⟩
        have ho : Owned β st.H b := ⟨id, _, hm, by rw [hβ]; rfl⟩
        refine ext_set hI hm rfl ⟨rfl, fun _ => (by first | exact Nat.le_refl _ | exact Nat.le_succ _)⟩ rfl (by simp) (fun b' hb' => setRow_other w b b' _ (fun e => hb' (by rw [hβ, e]; rfl))) ?_
        have key := fun j d => arr_mid cur.toList vy.cells.toList off i.cells hyl (by simpa using hcs) d j
        have key2 := fun j => take_mid_drop cells (cellsL y) off i.cells hlen hle AV.junk j
        refine ⟨b, _, e, hβ, setRow_heap w b cur _ e _ hh, ?_, fun j hj => ?_, fun j hj => ?_⟩
        · simp only [List.size_toArray, List.length_append, List.length_take, List.length_drop, Array.length_toList, hys, hs, hlen]
          omega
        all_goals
          have hj' : j < cells.length := by
            simp only [List.length_append, List.length_take, List.length_drop, hlen] at hj
            omega
        · rw [key]
          by_cases q1 : j < off
          · rw [if_pos q1]; simpa [List.getD] using h1 j hj'
          · rw [if_neg q1]
            by_cases q2 : j < off + i.cells
            · rw [if_pos q2]; simpa [List.getD] using (hy2 (j - off) (by omega)).1
            · rw [if_neg q2]; simpa [List.getD] using h1 j hj'
        · rw [key, key2]
          by_cases q1 : j < off
          · rw [if_pos q1, if_pos q1]; exact rd_after hI ho (by simpa [List.getD] using hr j hj')
          · rw [if_neg q1, if_neg q1]
            by_cases q2 : j < off + i.cells
            · rw [if_pos q2, if_pos q2]; exact rd_after hI ho (by simpa [List.getD] using (hy2 (j - off) (by omega)).2)
            · rw [if_neg q2, if_neg q2]; exact rd_after hI ho (by simpa [List.getD] using hr j hj')
      · exact h.elim
    · rename_i id K m j
      split at h
      · rename_i E K' rows hc
        obtain ⟨himm, row, hrow, rfl, h⟩ := cond_prop h
        obtain ⟨hok, hlen, hle, R, rfl, hk⟩ := stCells_len h
        have hm := findC_mem hc
        have hmr := lt_of_getElem? hrow
        obtain ⟨g, n, c, hβ, rfl⟩ := hx.e_inv
        rcases hI.holds _ _ hm with ⟨rfl, _⟩ | ⟨g', cap, cur, hv, hcap, hg, hn, hmx, hs, hK, hr⟩
        · simp at hmr
        · rw [hv] at hβ
          cases hβ
          have hrl : row.length = K := by have := hK m hmr; rwa [getD_of_getElem? hrow] at this
          obtain ⟨hy1, hy2⟩ := cells_rd hy hok
          have hys : vy.cells.size = i.cells := by rw [hy1, hlen]
          have hmK : m * K + K ≤ rows.length * K := by
            calc m * K + K = (m + 1) * K := by rw [Nat.add_mul]; omega
              _ ≤ rows.length * K := Nat.mul_le_mul_right _ hmr
          have hrc : rows.length * K ≤ c * K := Nat.mul_le_mul_right _ hn
          have hcs : m * K + j + i.cells ≤ cur.size := by omega
          have hrun := run_storeAt (off := m * K + j) (hT _ _ hi) hg hys hcs (fun j hj => (hy2 j (by omega)).1)
          have hyl : vy.cells.toList.length = i.cells := by simpa using hys
          have h0 : Nat.beq c 0 = false := by cases c <;> first | rfl | omega
          have ho : Owned β st.H g := ⟨id, _, hm, by rw [hv]; simp [blkOf, h0]⟩
          refine EOut.skip hrun ⟨_, _, F, β, hk, .i (.v (.inr rfl)), ?_⟩
          refine ext_set hI hm rfl ⟨rfl, fun _ => (by first | exact Nat.le_refl _ | exact Nat.le_succ _)⟩ rfl (by simp) (fun b' hb' => setRow_other w g b' _ (fun e => hb' (by rw [hv, e]; simp [blkOf, h0]))) (.inr ?_)
          have key := fun j' d => arr_mid cur.toList vy.cells.toList (m * K + j) i.cells hyl (by simpa using hcs) d j'
          have hset : ∀ q, q < rows.length → (rows.set m (row.take j ++ (cellsL y ++ row.drop (j + i.cells)))).getD q [] = if q = m then row.take j ++ (cellsL y ++ row.drop (j + i.cells)) else rows.getD q [] := by
            intro q hq
            by_cases hqm : q = m
            · subst hqm; simp [List.getD, hq]
            · simp [List.getD, hqm, Ne.symm hqm]
          refine ⟨g, c, _, by rw [hv]; simp, hcap, setRow_heap w g cur _ E _ hg, by simpa using hn, hmx, ?_, fun q hq => ?_, fun q z hq hz => ?_⟩
          · simp only [List.size_toArray, List.length_append, List.length_take, List.length_drop, Array.length_toList, hys]
            omega
          · have hq : q < rows.length := by simpa using hq
            rw [hset q hq]
            split
            · simp only [List.length_append, List.length_take, List.length_drop, hlen, hrl]; omega
            · exact hK q hq
          · have hq : q < rows.length := by simpa using hq
            rw [key, hset q hq]
            have hold := hr q z hq hz
            by_cases hqm : q = m
            · subst hqm
              rw [if_pos rfl]
              have key2 := take_mid_drop row (cellsL y) j i.cells hlen (by omega) AV.junk z
              by_cases q1 : z < j
              · rw [if_pos (by omega), key2, if_pos q1]
                rw [getD_of_getElem? hrow] at hold
                refine ⟨by simpa [List.getD] using hold.1, ?_⟩
                have h2 := hold.2.frame (w' := w.setRow g (cur.toList.take (q * K + j) ++ vy.cells.toList ++ cur.toList.drop (q * K + j + vy.cells.toList.length)).toArray) (fun b' hb' => setRow_other w g b' _ fun e => hI.apart g ho (e ▸ hb')) fun _ h => h
                simpa [List.getD] using h2
              · by_cases q2 : z < j + i.cells
                · rw [if_neg (by omega), if_pos (by omega), key2, if_neg q1, if_pos q2]
                  have hyz := hy2 (z - j) (by omega)
                  have himm' : imm0 ((cellsL y).getD (z - j) .junk) = true := List.all_eq_true.1 himm _ (by
                    rw [List.getD_eq_getElem?_getD, List.getElem?_eq_getElem (show z - j < (cellsL y).length by omega)]; exact List.getElem_mem _)
                  have h2 := (imm0_rd himm' hyz.2).frame (w' := w.setRow g (cur.toList.take (q * K + j) ++ vy.cells.toList ++ cur.toList.drop (q * K + j + vy.cells.toList.length)).toArray) (fun b' hb' => setRow_other w g b' _ fun e => hI.apart g ho (e ▸ hb')) fun _ h => h
                  rw [show q * K + z - (q * K + j) = z - j by omega]
                  exact ⟨by simpa [List.getD] using hyz.1, by simpa [List.getD] using h2⟩
                · rw [if_neg (by omega), if_neg (by omega), key2, if_neg q1, if_neg q2]
                  rw [getD_of_getElem? hrow] at hold
                  have h2 := hold.2.frame (w' := w.setRow g (cur.toList.take (q * K + j) ++ vy.cells.toList ++ cur.toList.drop (q * K + j + vy.cells.toList.length)).toArray) (fun b' hb' => setRow_other w g b' _ fun e => hI.apart g ho (e ▸ hb')) fun _ h => h
                  exact ⟨by simpa [List.getD] using hold.1, by simpa [List.getD] using h2⟩
            · rw [if_neg hqm]
              have hout : q * K + z < m * K + j ∨ m * K + j + i.cells ≤ q * K + z := by
                rcases Nat.lt_or_gt_of_ne hqm with h | h
                · left
                  calc q * K + z < q * K + K := by omega
                    _ = (q + 1) * K := by rw [Nat.add_mul]; omega
                    _ ≤ m * K := Nat.mul_le_mul_right _ h
                    _ ≤ m * K + j := by omega
                · right
                  calc m * K + j + i.cells ≤ m * K + K := by omega
                    _ = (m + 1) * K := by rw [Nat.add_mul]; omega
                    _ ≤ q * K := Nat.mul_le_mul_right _ h
                    _ ≤ q * K + z := by omega
              have h2 := hold.2.frame (w' := w.setRow g (cur.toList.take (m * K + j) ++ vy.cells.toList ++ cur.toList.drop (m * K + j + vy.cells.toList.length)).toArray) (fun b' hb' => setRow_other w g b' _ fun e => hI.apart g ho (e ▸ hb')) fun _ h => h
              rcases hout with h | h
              · rw [if_pos h]; exact ⟨by simpa [List.getD] using hold.1, by simpa [List.getD] using h2⟩
              · rw [if_neg (by omega), if_neg (by omega)]; exact ⟨by simpa [List.getD] using hold.1, by simpa [List.getD] using h2⟩
      · exact h.elim
    · exact h.elim
  · exact h.elim

end
end Go.Cat
