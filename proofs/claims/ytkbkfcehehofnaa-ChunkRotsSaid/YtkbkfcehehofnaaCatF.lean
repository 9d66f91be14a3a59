/- The machine agrees with 'stepS': structs and slices that are built; all operations together. No condition. -/
import Derived.Test.YtkbkfcehehofnaaCatE
namespace Go.Cat
set_option linter.all false
open Go.RowKit
variable [M : Mono]

section
variable {P : Program} {T : TT} {w : World} {F : Nat → Prop} {β : Nat → Value} {H : Hp} {k : AV → Prop}

/-- Cells that read as trees, each of one cell. -/
def RdL (w : World) (F : Nat → Prop) (β : Nat → Value) (xs : List AV) (us : Array Value) : Prop :=
  us.size = xs.length ∧ ∀ i, i < xs.length → (us.getD i undef).oneCell' = true ∧ Rd w F β (xs.getD i .junk) (us.getD i undef)

theorem okCells_split {x : AV} (h : okCells x = true) : (∃ cs, x = .a cs) ∨ (isCell x = true ∧ cellsL x = [x]) := by
  cases x <;> first | exact .inl ⟨_, rfl⟩ | exact .inr ⟨h, rfl⟩

theorem cells_rd {x : AV} {u : Value} (h : Rd w F β x u) (hx : okCells x = true) : RdL w F β (cellsL x) u.cells := by
  rcases okCells_split hx with ⟨cs, rfl⟩ | ⟨hc, hl⟩
  · obtain ⟨us, rfl, hs, h1, hr⟩ := h.a_inv
    exact ⟨hs, fun i hi => ⟨h1 i hi, hr i hi⟩⟩
  · have h1 := isCell_one hc h
    have hc : u.cells = #[u] := by cases u <;> simp [Value.oneCell'] at h1 <;> rfl
    rw [hc, hl]
    refine ⟨rfl, fun i hi => ?_⟩
    simp at hi
    subst hi
    exact ⟨h1, h⟩

theorem foldl_zip (off : Nat) : ∀ (l : List Value) (n : Nat) (cs : Array Value), off + n + l.length ≤ cs.size →
    (l.zipIdx n).foldl (fun cs x => cs.setIfInBounds (off + x.2) x.1) cs = (cs.toList.take (off + n) ++ l ++ cs.toList.drop (off + n + l.length)).toArray := by
  intro l
  induction l with
  | nil => intro n cs h; simp
  | cons x r ih =>
    intro n cs h
    simp only [List.length_cons] at h
    simp only [List.zipIdx_cons, List.foldl_cons]
    rw [ih (n + 1) _ (by simp; omega)]
    have h1 : off + n < cs.toList.length := by simp; omega
    have e1 : (cs.toList.set (off + n) x).take (off + (n + 1)) = cs.toList.take (off + n) ++ [x] := by
      rw [show off + (n + 1) = off + n + 1 by omega, List.take_succ_eq_append_getElem (by simpa using h1)]
      rw [List.take_set, List.set_eq_of_length_le (by simp; omega)]
      simp
    have e2 : (cs.toList.set (off + n) x).drop (off + (n + 1) + r.length) = cs.toList.drop (off + n + (r.length + 1)) := by
      rw [List.drop_set, if_pos (by omega), show off + (n + 1) + r.length = off + n + (r.length + 1) by omega]
    simp only [Array.toList_setIfInBounds, e1, e2, List.length_cons]
    simp

theorem fill_sound {placeA : Nat → Option (Nat × Nat)} {placeC : Nat → Option (Nat × Nat)} (hp : ∀ i x, placeA i = some x → placeC i = some x) :
    ∀ (parts : List (Nat × AV)) (vs : List (Nat × Value)) (cells cells' : List AV) (us : Array Value), parts.length = vs.length →
      (∀ i, i < parts.length → (parts.getD i (0, .junk)).1 = (vs.getD i (0, undef)).1 ∧ Rd w F β (parts.getD i (0, .junk)).2 (vs.getD i (0, undef)).2) →
      RdL w F β cells us → fillL placeA parts cells = some cells' → ∃ us', Instr.fill placeC us vs = some us' ∧ RdL w F β cells' us' := by
  intro parts
  induction parts with
  | nil =>
    intro vs cells cells' us hl _ hr h
    cases vs with
    | nil => simp [fillL] at h; subst h; exact ⟨us, rfl, hr⟩
    | cons => simp at hl
  | cons p r ih =>
    intro vs cells cells' us hl hv hr h
    cases vs with
    | nil => simp at hl
    | cons q s =>
      obtain ⟨i, x⟩ := p
      obtain ⟨i', u⟩ := q
      have h0 := hv 0 (by simp)
      simp at h0
      obtain ⟨rfl, hu⟩ := h0
      simp only [fillL] at h
      split at h
      · cases h
      · rename_i off size hpl
        cases hb : (okCells x && (Nat.beq (cellsL x).length size && Nat.ble (off + size) cells.length)) with
        | false => rw [hb] at h; cases h
        | true =>
          rw [hb] at h
          simp only [Bool.and_eq_true] at hb
          obtain ⟨hok, hsz, hle⟩ := hb
          have hsz : (cellsL x).length = size := Nat.eq_of_beq_eq_true hsz
          have hle : off + size ≤ cells.length := by simpa using hle
          obtain ⟨hc1, hc2⟩ := cells_rd hu hok
          have hfold := foldl_zip off u.cells.toList 0 us (by simp; rw [hc1, hr.1]; omega)
          simp only [Nat.add_zero] at hfold
          have hz : u.cells.zipIdx.foldl (fun cs x => cs.setIfInBounds (off + x.2) x.1) us = (us.toList.take off ++ u.cells.toList ++ us.toList.drop (off + u.cells.toList.length)).toArray := by
            rw [← hfold, ← Array.foldl_toList, Array.toList_zipIdx]
          have hr' : RdL w F β (cells.take off ++ (cellsL x ++ cells.drop (off + size))) (us.toList.take off ++ u.cells.toList ++ us.toList.drop (off + u.cells.toList.length)).toArray := by
            have hul : us.toList.length = cells.length := by simpa using hr.1
            have hul' : us.size = cells.length := hr.1
            have hcl : u.cells.toList.length = size := by simp; rw [hc1]; exact hsz
            refine ⟨by simp only [List.size_toArray, List.length_append, List.length_take, List.length_drop]; omega, fun j hj => ?_⟩
            simp only [List.length_append, List.length_take, List.length_drop] at hj
            have key : ∀ (d : Value), (us.toList.take off ++ u.cells.toList ++ us.toList.drop (off + u.cells.toList.length)).toArray.getD j d =
                if j < off then us.getD j d else if j < off + size then u.cells.getD (j - off) d else us.getD j d := by
              intro d
              simp only [Array.getD_eq_getD_getElem?, List.getElem?_toArray, List.getElem?_append, List.length_append, List.length_take, hcl, List.getElem?_take, List.getElem?_drop]
              by_cases h1 : j < off
              · simp [h1, show j < min off us.size + size by omega, show j < min off us.size by omega]
              · by_cases h2 : j < off + size
                · simp [h1, h2, show min off us.size = off by omega]
                · simp [h1, h2, show min off us.size = off by omega, show off + size + (j - (off + size)) = j by omega]
            have key2 : (cells.take off ++ (cellsL x ++ cells.drop (off + size))).getD j .junk = if j < off then cells.getD j .junk else if j < off + size then (cellsL x).getD (j - off) .junk else cells.getD j .junk := by
              simp only [List.getD, List.getElem?_append, List.length_take, hsz, List.getElem?_take, List.getElem?_drop]
              by_cases h1 : j < off
              · simp [h1, show j < min off cells.length by omega]
              · by_cases h2 : j < off + size
                · simp [h1, h2, show min off cells.length = off by omega, show j - off < size by omega]
                · simp [h1, h2, show min off cells.length = off by omega, show ¬ j - off < size by omega, show off + size + (j - off - size) = j by omega]
            rw [key, key2]
            by_cases h1 : j < off
            · rw [if_pos h1, if_pos h1]; exact hr.2 j (by omega)
            · rw [if_neg h1, if_neg h1]
              by_cases h2 : j < off + size
              · rw [if_pos h2, if_pos h2]; exact hc2 (j - off) (by omega)
              · rw [if_neg h2, if_neg h2]; exact hr.2 j (by omega)
          obtain ⟨us', hf, hr''⟩ := ih s _ cells' _ (by simpa using hl) (fun m hm => by have := hv (m + 1) (by simp; omega); simpa using this) hr' h
          refine ⟨us', ?_, hr''⟩
          simp only [Instr.fill, hp _ _ hpl]
          rw [if_neg ?_]
          · have hz' : (Array.foldl (fun cs (x : Value × Nat) => cs.setIfInBounds (off + x.2) x.1) us u.cells.zipIdx) = (us.toList.take off ++ u.cells.toList ++ us.toList.drop (off + u.cells.toList.length)).toArray := hz
            exact (congrArg (fun z => Instr.fill placeC z s) hz').trans hf
          · simp only [Bool.or_eq_true, ne_eq, decide_eq_true_eq, not_or, decide_not, Bool.not_eq_true']
            rw [hc1, hsz, hr.1]
            simp
            omega


theorem ofV_a {z : Value} {zs : List AV} (h : ofV z = .a zs) : RdL w F β zs z.cells := by
  have hr := ofV_rd w F z β
  rw [h] at hr
  obtain ⟨us, rfl, hs, h1, h2⟩ := hr.a_inv
  exact ⟨hs, fun i hi => ⟨h1 i hi, h2 i hi⟩⟩

theorem RdL.agg {xs : List AV} {us : Array Value} (h : RdL w F β xs us) : Rd w F β (.a xs) (.agg us) := .a h.1 (fun i hi => (h.2 i hi).1) fun i hi => (h.2 i hi).2

theorem allTy_get {T : TT} : ∀ {fs : List (Nat × Nat)} {x : Nat × Nat}, allTy T fs = true → x ∈ fs → ∃ j, T x.2 = some j
  | [], _, _, h => by cases h
  | (_, ty) :: r, x, ha, h => by
    simp only [allTy, Bool.and_eq_true] at ha
    cases h with
    | head => exact Option.isSome_iff_exists.1 ha.1
    | tail _ h => exact allTy_get ha.2 h

theorem run_places (hT : TOk P T) : ∀ (fields : List Field), allTy T (fields.map fun f => (f.offset, f.type)) = true →
    ∃ ps : List (Nat × Nat), (List.mapM (fun f : Field => (do pure (f.offset, ← sizeOf f.type) : Sem (Nat × Nat))) fields).run P w = .ok ps w ∧
      ∀ i x, placeF T (fields.map fun f => (f.offset, f.type)) i = some x → ps[i]? = some x
  | [], _ => ⟨[], by simp, fun i x h => by simp [placeF] at h⟩
  | f :: r, ha => by
    simp only [List.map_cons, allTy, Bool.and_eq_true] at ha
    obtain ⟨ps, hr, hp⟩ := run_places hT r ha.2
    obtain ⟨j, hj⟩ := Option.isSome_iff_exists.1 ha.1
    have hsz := (hT _ _ hj).run_size w
    refine ⟨(f.offset, j.cells) :: ps, by rw [List.mapM_cons]; simp only [Sem.run_bind, Sem.run_pure, Result.andThen_ok, hsz, hr], fun i x h => ?_⟩
    cases i with
    | zero =>
      simp [placeF, hj] at h
      simpa using h
    | succ i => exact hp i x (by simpa [placeF] using h)

theorem sBuild_sound {t : Nat} {parts : List (Nat × AV)} {vs : Array (Nat × Value)} (hT : TOk P T) (hl : parts.length = vs.size)
    (hv : ∀ i, i < parts.length → (parts.getD i (0, .junk)).1 = (vs.toList.getD i (0, undef)).1 ∧ Rd w F β (parts.getD i (0, .junk)).2 (vs.toList.getD i (0, undef)).2)
    (h : sBuild T t parts k) : Gives P (Instr.build t vs) w F β k := by
  unfold sBuild at h
  split at h
  · rename_i i hi
    have hz := (hT _ _ hi).run_zero w
    split at h
    · rename_i zs hzs
      have hz0 := ofV_a (w := w) (F := F) (β := β) hzs
      split at h
      · rename_i fs hfs
        obtain ⟨hall, h⟩ := cond_prop h
        obtain ⟨fields, hu, rfl⟩ := (hT _ _ hi).struct hfs
        split at h
        · rename_i cells hf
          obtain ⟨ps, hr, hp⟩ := run_places (w := w) hT fields.toList hall
          obtain ⟨us', hf', hr'⟩ := fill_sound (w := w) (F := F) (β := β) (placeC := fun j => ps.toArray[j]?) (fun i x hx => by simpa using hp i x hx) parts vs.toList zs cells i.zero.cells (by simpa using hl) hv hz0 hf
          refine Gives.mk (v := .agg us') ?_ h hr'.agg
          have hm : (fields.mapM (fun f => (do pure (f.offset, ← sizeOf f.type) : Sem (Nat × Nat)))).run P w = .ok ps.toArray w := by
            rw [Array.mapM_eq_mapM_toList]
            simp only [Sem.run_map, hr, Result.andThen_ok]
          unfold Instr.build
          simp only [Sem.run_bind, hz, Result.andThen_ok, run_underlying hu, hm, hf', Sem.run_pure]
        · exact h.elim
      · rename_i n e he
        have hu := (hT _ _ hi).arr he
        split at h
        · rename_i j hj
          have hsz := (hT _ _ hj).run_size w
          split at h
          · rename_i cells hf
            obtain ⟨us', hf', hr'⟩ := fill_sound (w := w) (F := F) (β := β) (placeC := fun i => some (i * j.cells, j.cells)) (fun i x hx => hx) parts vs.toList zs cells i.zero.cells (by simpa using hl) hv hz0 hf
            refine Gives.mk (v := .agg us') ?_ h hr'.agg
            unfold Instr.build
            simp only [Sem.run_bind, hz, Result.andThen_ok, run_underlying hu, hsz, hf', Sem.run_pure]
          · exact h.elim
        · exact h.elim
      · exact h.elim
    · exact h.elim
  · exact h.elim


/-! A slice that is built whole. -/
theorem rowsOf_spec {size : Nat} : ∀ {parts : List (Nat × AV)} {n : Nat} {rows : List (List AV)}, rowsOf size n parts = some rows → rows.length = parts.length ∧ ∀ i, i < parts.length →
    (parts.getD i (0, .junk)).1 = n + i ∧ okCells (parts.getD i (0, .junk)).2 = true ∧ (cellsL (parts.getD i (0, .junk)).2).length = size ∧ rows.getD i [] = cellsL (parts.getD i (0, .junk)).2
  | [], n, rows, h => by simp [rowsOf] at h; subst h; exact ⟨rfl, fun i hi => by simp at hi⟩
  | (m, x) :: r, n, rows, h => by
    simp only [rowsOf] at h
    cases hb : (Nat.beq m n && (okCells x && Nat.beq (cellsL x).length size)) with
    | false => rw [hb] at h; cases h
    | true =>
      rw [hb] at h
      simp only [Bool.and_eq_true] at hb
      obtain ⟨hm, hok, hs⟩ := hb
      have hm : m = n := Nat.eq_of_beq_eq_true hm
      have hs : (cellsL x).length = size := Nat.eq_of_beq_eq_true hs
      cases hr : rowsOf size (n + 1) r with
      | none => rw [hr] at h; cases h
      | some rs =>
        rw [hr] at h
        simp only [cond_true, Option.map_some, Option.some.injEq] at h
        subst h
        obtain ⟨hl, hi⟩ := rowsOf_spec hr
        refine ⟨by simp [hl], fun i hlt => ?_⟩
        cases i with
        | zero => exact ⟨by simpa using hm, hok, hs, rfl⟩
        | succ i =>
          have := hi i (by simpa using hlt)
          simpa [Nat.add_assoc, Nat.add_comm 1 i] using this

/-- The cells of rows, one behind the other. -/
theorem flat_getD {size : Nat} : ∀ (rows : List (List AV)) (i j : Nat), (∀ i, i < rows.length → (rows.getD i []).length = size) → i < rows.length → j < size → rows.flatten.getD (i * size + j) .junk = (rows.getD i []).getD j .junk
  | [], i, j, _, hi, _ => by simp at hi
  | r :: rs, i, j, h, hi, hj => by
    have hr : r.length = size := by simpa using h 0 (by simp)
    cases i with
    | zero => simp [List.getD, List.getElem?_append, hr, hj]
    | succ i =>
      have ih := flat_getD rs i j (fun m hm => by simpa using h (m + 1) (by simpa using hm)) (by simpa using hi) hj
      have e : (i + 1) * size + j = size + (i * size + j) := by rw [Nat.add_mul]; omega
      rw [e]
      simpa [List.getD, List.getElem?_append, hr, show ¬ size + (i * size + j) < size by omega] using ih

theorem flat_length {size : Nat} : ∀ (rows : List (List AV)), (∀ i, i < rows.length → (rows.getD i []).length = size) → rows.flatten.length = rows.length * size
  | [], _ => by simp
  | r :: rs, h => by
    have hr : r.length = size := by simpa using h 0 (by simp)
    have ih := flat_length rs (fun m hm => by simpa using h (m + 1) (by simpa using hm))
    simp [hr, ih, Nat.add_mul]; omega

/-- Parts that are laid one behind the other, from cell n * size on. -/
theorem fill_rows {size : Nat} (hsize : 0 < size) : ∀ (parts : List (Nat × AV)) (vs : List (Nat × Value)) (n : Nat) (rows : List (List AV)) (done : List AV) (us : Array Value), parts.length = vs.length →
    (∀ i, i < parts.length → (parts.getD i (0, .junk)).1 = (vs.getD i (0, undef)).1 ∧ Rd w F β (parts.getD i (0, .junk)).2 (vs.getD i (0, undef)).2) →
    rowsOf size n parts = some rows → done.length = n * size → us.size = (n + parts.length) * size →
    (∀ i, i < done.length → (us.getD i undef).oneCell' = true ∧ Rd w F β (done.getD i .junk) (us.getD i undef)) →
    ∃ us', Instr.fill (fun i => some (i * size, size)) us vs = some us' ∧ RdL w F β (done ++ rows.flatten) us' := by
  intro parts
  induction parts with
  | nil =>
    intro vs n rows done us hl hv hr hd hu hdn
    cases vs with
    | cons => simp at hl
    | nil =>
      simp [rowsOf] at hr
      subst hr
      refine ⟨us, rfl, ?_, fun i hi => ?_⟩
      · simpa [hd] using hu
      · simpa using hdn i (by simpa using hi)
  | cons p r ih =>
    intro vs n rows done us hl hv hr hd hu hdn
    cases vs with
    | nil => simp at hl
    | cons q s =>
      obtain ⟨m, x⟩ := p
      obtain ⟨m', u⟩ := q
      have h0 := hv 0 (by simp)
      simp at h0
      obtain ⟨rfl, hxu⟩ := h0
      simp only [rowsOf] at hr
      cases hb : (Nat.beq m n && (okCells x && Nat.beq (cellsL x).length size)) with
      | false => rw [hb] at hr; cases hr
      | true =>
        rw [hb] at hr
        simp only [Bool.and_eq_true] at hb
        obtain ⟨hm, hok, hs⟩ := hb
        obtain rfl : m = n := Nat.eq_of_beq_eq_true hm
        have hs : (cellsL x).length = size := Nat.eq_of_beq_eq_true hs
        cases hr2 : rowsOf size (m + 1) r with
        | none => rw [hr2] at hr; cases hr
        | some rs =>
          rw [hr2] at hr
          simp only [cond_true, Option.map_some, Option.some.injEq] at hr
          subst hr
          obtain ⟨hc1, hc2⟩ := cells_rd hxu hok
          have hul : us.size = m * size + (size + r.length * size) := by
            rw [hu]; simp only [List.length_cons, Nat.add_mul]; omega
          have hcl : u.cells.toList.length = size := by simp; rw [hc1]; exact hs
          have hfold := foldl_zip (m * size) u.cells.toList 0 us (by rw [hcl]; omega)
          simp only [Nat.add_zero] at hfold
          have hz : u.cells.zipIdx.foldl (fun cs x => cs.setIfInBounds (m * size + x.2) x.1) us = (us.toList.take (m * size) ++ u.cells.toList ++ us.toList.drop (m * size + u.cells.toList.length)).toArray := by
            rw [← hfold, ← Array.foldl_toList, Array.toList_zipIdx]
          have key : ∀ j, j < (done ++ cellsL x).length → ((us.toList.take (m * size) ++ u.cells.toList ++ us.toList.drop (m * size + u.cells.toList.length)).toArray.getD j undef) = if j < m * size then us.getD j undef else u.cells.getD (j - m * size) undef := by
            intro j hj
            simp only [List.length_append, hd, hs] at hj
            simp only [Array.getD_eq_getD_getElem?, List.getElem?_toArray, List.getElem?_append, List.length_append, List.length_take, hcl, List.getElem?_take, List.getElem?_drop]
            by_cases h1 : j < m * size
            · simp [h1, show j < min (m * size) us.size + size by omega, show j < min (m * size) us.size by omega]
            · simp [h1, show min (m * size) us.size = m * size by omega, show j < m * size + size by omega]
          obtain ⟨us', hf, hr'⟩ := ih s (m + 1) rs (done ++ cellsL x) (us.toList.take (m * size) ++ u.cells.toList ++ us.toList.drop (m * size + u.cells.toList.length)).toArray (by simpa using hl) (fun i hi => by have := hv (i + 1) (by simp; omega); simpa using this) hr2
            (by simp [hd, hs, Nat.add_mul])
            (by simp only [List.size_toArray, List.length_append, List.length_take, List.length_drop, hcl, Array.length_toList, Nat.add_mul]; omega)
            (fun i hi => by
              rw [key i hi]
              by_cases h1 : i < m * size
              · rw [if_pos h1]
                have e : (done ++ cellsL x).getD i .junk = done.getD i .junk := by simp [List.getD, List.getElem?_append, hd, h1]
                rw [e]; exact hdn i (by omega)
              · rw [if_neg h1]
                have hi' : i < m * size + size := by simpa [hd, hs] using hi
                have e : (done ++ cellsL x).getD i .junk = (cellsL x).getD (i - m * size) .junk := by simp [List.getD, List.getElem?_append, hd, h1]
                rw [e]; exact hc2 _ (by omega))
          refine ⟨us', ?_, by simpa using hr'⟩
          simp only [Instr.fill]
          rw [if_neg ?_]
          · exact (congrArg (fun z => Instr.fill (fun i => some (i * size, size)) z s) hz).trans hf
          · simp only [Bool.or_eq_true, ne_eq, decide_eq_true_eq, not_or, decide_not, Bool.not_eq_true']
            rw [hc1, hs]
            simp
            omega

theorem imm0_rd {x : AV} {u : Value} (hx : imm0 x = true) (h : Rd w F β x u) : RdI w F x u := by
  cases x <;> first | (cases hx; done) | (cases h; assumption)

theorem imm1_rd {x : AV} {u : Value} (hx : imm1 x = true) (h : Rd w F β x u) : RdI w F x u := by
  have get : ∀ (l : List AV) (i : Nat), l.all imm0 = true → i < l.length → imm0 (l.getD i .junk) = true := fun l i hl hi => by
    have := List.all_eq_true.1 hl (l.getD i .junk) (by simp [List.getD, hi])
    exact this
  cases x with
  | a cs =>
    obtain ⟨us, rfl, hs, h1, hr⟩ := h.a_inv
    exact .a hs h1 fun i hi => imm0_rd (get cs i hx hi) (hr i hi)
  | t cs =>
    obtain ⟨us, rfl, hs, hr⟩ := h.t_inv
    exact .t hs fun i hi => imm0_rd (get cs i hx hi) (hr i hi)
  | c fn fs cs =>
    simp only [imm1, Bool.and_eq_true] at hx
    obtain ⟨us, vs, rfl, hs, hs', hr, hr'⟩ := h.c_inv
    exact .c hs hs' (fun i hi => imm0_rd (get fs i hx.1 hi) (hr i hi)) fun i hi => imm0_rd (get cs i hx.2 hi) (hr' i hi)
  | _ => exact imm0_rd hx h

/-- What a map's entries and a row of pairs say of one number. -/
theorem find_row {ag : Bool} {rows : List (Int × List AV)} {es : Array MapEntry} {ck : Nat} (hst : Go.MapKept.Stamped es ck) (hs : es.size = rows.length)
    (hr : ∀ (i : Nat) (r : Int × List AV), rows[i]? = some r → ∃ e : MapEntry, es[i]? = some e ∧ e.key = .int .i64 r.1 ∧ InI64 r.1 ∧ RdI w F (vOf ag r.2) e.val) (n : Int) :
    (∀ x ∈ es.toList, Go.MapKept.IsKey (.int .i64) x.key) ∧
    ((Instr.findNow (.int .i64) (.int .i64 n) es.toList 0 = some none ∧ mget n rows = none ∧ (∀ x ∈ es.toList, x.key ≠ .int .i64 n)) ∨
      ∃ (j : Nat) (e : MapEntry) (c : List AV), Instr.findNow (.int .i64) (.int .i64 n) es.toList 0 = some (some (j, e.val)) ∧ es[j]? = some e ∧ e.key = .int .i64 n ∧ rows[j]? = some (n, c) ∧ mget n rows = some c ∧ RdI w F (vOf ag c) e.val ∧
        ∀ v, mset n v rows = rows.set j (n, v)) := by
  have hkey : ∀ (i : Nat) (e : MapEntry), es[i]? = some e → ∃ r, rows[i]? = some r ∧ e.key = .int .i64 r.1 ∧ RdI w F (vOf ag r.2) e.val := fun i e he => by
    have hlt : i < rows.length := by have := (Array.getElem?_eq_some_iff.1 he).1; omega
    obtain ⟨e', h1, h2, _, h4⟩ := hr i rows[i] (List.getElem?_eq_getElem hlt)
    rw [he] at h1; cases h1
    exact ⟨_, List.getElem?_eq_getElem hlt, h2, h4⟩
  have hall : ∀ x ∈ es.toList, Go.MapKept.IsKey (.int .i64) x.key := fun x hx => by
    obtain ⟨i, hi⟩ := List.mem_iff_getElem?.1 hx
    obtain ⟨r, _, h2, _⟩ := hkey i x (by simpa using hi)
    rw [h2]; rfl
  refine ⟨hall, ?_⟩
  have hat := mget_at n ([] : List AV) rows
  rcases Go.MapKept.findNow_spec (d := .int .i64) (k := .int .i64 n) rfl es.toList 0 hall with ⟨h1, h2⟩ | ⟨j, e, h1, h2, h3⟩
  · refine .inl ⟨h1, ?_, h2⟩
    rcases hat with ⟨h, _, _⟩ | ⟨j, c, hj, _⟩
    · exact h
    · obtain ⟨e, he, hk, _⟩ := hr j _ hj
      exact (h2 e (by rw [← Array.getElem?_toList] at he; exact List.mem_of_getElem? he) hk).elim
  · have h2' : es[j]? = some e := by simpa using h2
    obtain ⟨r, hrj, hrk, hrv⟩ := hkey j e h2'
    have hrn : r.1 = n := by rw [h3] at hrk; cases hrk; rfl
    obtain ⟨rn, rc⟩ := r
    dsimp only at hrn
    subst hrn
    refine .inr ⟨j, e, rc, by simpa using h1, h2', h3, hrj, ?_⟩
    have uniq : ∀ (i : Nat) c, rows[i]? = some (rn, c) → i = j := fun i c hi => by
      obtain ⟨e', he', hk', _⟩ := hr i _ hi
      have hnd := hst.2.2
      have l1 : (es.toList.map (·.key))[i]? = some (.int .i64 rn) := by rw [List.getElem?_map]; simp [he', hk']
      have l2 : (es.toList.map (·.key))[j]? = some (.int .i64 rn) := by rw [List.getElem?_map]; simp [h2', h3]
      have hnd := List.pairwise_iff_getElem.1 hnd
      obtain ⟨a1, a2⟩ := List.getElem?_eq_some_iff.1 l1
      obtain ⟨b1, b2⟩ := List.getElem?_eq_some_iff.1 l2
      rcases Nat.lt_trichotomy i j with h | h | h
      · exact (hnd i j a1 b1 h (by rw [a2, b2])).elim
      · exact h
      · exact (hnd j i b1 a1 h (by rw [a2, b2])).elim
    rcases hat with ⟨_, _, h⟩ | ⟨i, c, hi, hg, _, hlt⟩
    · exact (h _ (List.mem_of_getElem? hrj) rfl).elim
    · have hij := uniq i c hi
      subst hij
      rw [hrj] at hi
      cases hi
      refine ⟨hg, hrv, fun v => ?_⟩
      rcases mget_at rn v rows with ⟨h, _, _⟩ | ⟨i', c', hi', _, hs', _⟩
      · rw [hg] at h; cases h
      · rw [hs', uniq i' c' hi']

theorem mval_rd {ag : Bool} {y : AV} {u : Value} {yc : List AV} (h : mval ag y = some yc) (hy : Rd w F β y u) : RdI w F (vOf ag yc) u := by
  cases ag with
  | true =>
    cases y <;> simp [mval] at h
    rename_i cs
    cases hc : cs.all imm0 with
    | false => rw [hc] at h; cases h
    | true =>
      rw [hc] at h; cases h
      exact imm1_rd (x := .a yc) (by simpa [imm1] using hc) hy
  | false =>
    have hi : imm0 y = true ∧ yc = [y] := by
      cases y <;> simp [mval, imm0] at h ⊢ <;> exact h.symm
    rw [hi.2]
    exact imm0_rd hi.1 hy

theorem nz_rdI {x : AV} {u : Value} (h : RdI w F x u) : RdI w F (nz x) u := by
  unfold nz
  split
  · cases h; exact .s0
  · exact h
theorem vOf_nz {ag : Bool} {zc : List AV} {u : Value} (h : RdI w F (vOf ag zc) u) : RdI w F (vOf ag (zc.map nz)) u := by
  cases ag with
  | true =>
    cases h with
    | a hs h1 h =>
      refine .a (by simpa using hs) (fun i hi => h1 i (by simpa using hi)) fun i hi => ?_
      have hi : i < zc.length := by simpa using hi
      have : (zc.map nz).getD i .junk = nz (zc.getD i .junk) := by simp [List.getD, hi]
      rw [this]; exact nz_rdI (h i hi)
  | false =>
    show RdI w F ((zc.map nz).getD 0 .junk) u
    have h : RdI w F (zc.getD 0 .junk) u := h
    cases zc with
    | nil => exact h
    | cons x r => exact nz_rdI h

theorem sLookup_sound {t : Nat} {m i : AV} {c : Bool} {vm vi : Value} (hT : TOk P T) (hI : Inv w F β H) (hm : Rd w F β m vm) (hi : Rd w F β i vi) (h : sLookup T t m i c H k) : Gives P (Instr.lookup t vm vi c) w F β k := by
  unfold sLookup at h
  split at h
  · rename_i ti hti
    split at h
    · rename_i kt e hk
      have hu := (hT _ _ hti).map hk
      split at h
      · rename_i ik ie hik hie
        split at h
        · rename_i id n hkk
          have hd := (hT _ _ hik).int hkk
          cases hi.v_inv
          split at h
          · rename_i ag rows zc hc hz
            obtain ⟨hag, r, hr0, h⟩ := cond_prop h
            have hag : ag = aggK ie.kind := by simpa using hag
            obtain ⟨b, hβ, rfl⟩ := hm.m_inv
            obtain ⟨b', es, ck, hβ', hh, hst, hs, hmx, hrr⟩ := hI.holds _ _ (findC_mem hc)
            rw [hβ] at hβ'; cases hβ'
            have hg := Go.MapKept.run_getObj_map (P := P) hh
            have hck := Go.MapKept.run_checkKey (P := P) (w := w) (k := .int .i64 n) hd rfl es.isEmpty 9999
            obtain ⟨_, hf⟩ := find_row hst hs hrr n
            have hzero := (hT _ _ hie).run_zero w
            have hres : ∃ v ok, (Instr.lookup t (.map (some b)) (.int .i64 n) c).run P w = .ok (if c then .tuple #[v, .bool ok] else v) w ∧ RdI w F (vOf ag r) v ∧ ok = (mget n rows).isSome := by
              rcases hf with ⟨h1, h2, _⟩ | ⟨j, e', c', h1, _, _, _, h2, h3, _⟩
              · have hfk := Go.MapKept.run_findKey (P := P) (w := w) hd h1
                refine ⟨ie.zero, false, ?_, ?_, by rw [h2]; rfl⟩
                · simp [Instr.lookup, run_underlying hu, hg, hck, hfk, hzero]
                · rw [← hr0, h2, Option.getD_none, hag]
                  exact vOf_nz (mval_rd hz (ofV_rd w F ie.zero β))
              · have hfk := Go.MapKept.run_findKey (P := P) (w := w) hd h1
                refine ⟨e'.val, true, ?_, ?_, by rw [h2]; rfl⟩
                · simp [Instr.lookup, run_underlying hu, hg, hck, hfk]
                · rw [← hr0, h2, Option.getD_some]; exact h3
            obtain ⟨v, ok, hrun, hv, hok⟩ := hres
            cases c with
            | true =>
              obtain ⟨b2, hb2, hk'⟩ := h
              refine Gives.mk hrun hk' (.i (.t rfl fun i hi => ?_))
              match i, hi with
              | 0, _ => exact hv
              | 1, _ =>
                show RdI w F (.v (.bool b2)) (.bool ok)
                rw [hok, hb2]; exact .v (.inl rfl)
            | false => exact Gives.mk hrun h (.i hv)
          · exact h.elim
        · exact h.elim
      · exact h.elim
    · exact h.elim
  · exact h.elim

end
end Go.Cat
