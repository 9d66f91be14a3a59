/- The machine agrees with 'stepS': all operations together. No condition. -/
import Derived.Test.YtkbkfcehehofnaaCatF
namespace Go.Cat
set_option linter.all false
open Go.RowKit
variable [M : Mono]

section
variable {P : Program} {T : TT} {w : World} {F : Nat → Prop} {β : Nat → Value} {H : Hp} {k : AV → Prop}

theorem below_alloc (w : World) (o : Obj) : Below w.heap.size w (w.alloc o) := (Below.refl _ _).alloc (Nat.le_refl _) _

theorem run_buildSlice {t len : Nat} {parts : List (Nat × AV)} {vs : Array (Nat × Value)} (hT : TOk P T) (hl : parts.length = vs.size)
    (hv : ∀ i, i < parts.length → (parts.getD i (0, .junk)).1 = (vs.toList.getD i (0, undef)).1 ∧ Rd w F β (parts.getD i (0, .junk)).2 (vs.toList.getD i (0, undef)).2)
    {K : List (List AV) → Nat → Nat → Prop} (h : sBuildS T t len parts K) :
    ∃ rows e size us, K rows e size ∧ T t = some ⟨.slice e, (((T t).map (·.cells)).getD 0), (((T t).map (·.bytes)).getD 0), (((T t).map (·.zero)).getD undef)⟩ ∧ 0 < size ∧ rows.length = len ∧ (∀ i, i < rows.length → (rows.getD i []).length = size) ∧
      RdL w F β rows.flatten us ∧ us.size = len * size ∧ (Instr.buildSlice t len vs).run P w = .ok (.slice (some ⟨w.heap.size, 0, none⟩) len len) (w.alloc (.cells us e)) ∧ len ≤ 16777216 := by
  unfold sBuildS at h
  split at h
  · rename_i i hi
    split at h
    · rename_i e he
      split at h
      · rename_i j hj
        split at h
        · rename_i rows hrows
          obtain ⟨hb, hk⟩ := cond_prop h
          simp only [Bool.and_eq_true] at hb
          obtain ⟨h1, h2, h3⟩ := hb
          have h1 : parts.length = len := Nat.eq_of_beq_eq_true h1
          have h2 : len * j.cells ≤ 16777216 := by simpa using h2
          have h3 : 0 < j.cells := by
            rcases Nat.eq_zero_or_pos j.cells with h0 | h0
            · rw [h0] at h3; cases h3
            · exact h0
          obtain ⟨hrl, hri⟩ := rowsOf_spec hrows
          have hu := (hT _ _ hi).slice he
          have hsz := (hT _ _ hj).run_size w
          have hz := (hT _ _ hj).run_zero w
          let zs : Array Value := (Array.range (len * j.cells)).map (j.zero.cells[· % j.zero.cells.size]!)
          obtain ⟨us, hf, hus⟩ := fill_rows (w := w) (F := F) (β := β) h3 parts vs.toList 0 rows [] zs (by simpa using hl) hv hrows (by simp) (by simp [zs, h1]) (fun i hi => by simp at hi)
          simp only [List.nil_append] at hus
          have hrs : ∀ i, i < rows.length → (rows.getD i []).length = j.cells := fun i hi => by
            obtain ⟨_, _, hs, hr⟩ := hri i (by omega)
            rw [hr]; exact hs
          have hfl := flat_length rows hrs
          refine ⟨rows, e, j.cells, us, hk, ?_, h3, by omega, hrs, hus, by rw [hus.1, hfl, hrl, h1], ?_, ?_⟩
          · rw [hi]; simp; rw [← he]
          · unfold Instr.buildSlice
            simp only [Sem.run_bind, run_underlying hu, Result.andThen_ok, hsz]
            rw [if_neg (by omega)]
            by_cases hl0 : len * j.cells = 0
            · have hlen0 : len = 0 := by rcases Nat.mul_eq_zero.1 hl0 with h | h; exact h; omega
              subst hlen0
              have hp : parts = [] := List.eq_nil_of_length_eq_zero h1
              subst hp
              have hvs : vs.toList = [] := List.eq_nil_of_length_eq_zero (by simpa using hl.symm)
              rw [if_pos hl0]
              have hzs : zs = #[] := by simp [zs]
              have hus0 : us = #[] := by
                rw [hvs, hzs] at hf
                simpa [Instr.fill] using hf.symm
              subst hus0
              have hr0 : Array.range 0 = #[] := Array.eq_empty_of_size_eq_zero (by simp)
              simp [hvs, Instr.fill, newRow, hr0]
            · rw [if_neg hl0]
              simp only [Sem.run_bind, hz, Result.andThen_ok, Sem.run_pure]
              have hf' : Instr.fill (fun i => some (i * j.cells, j.cells)) ((Array.range (len * j.cells)).map (j.zero.cells[· % j.zero.cells.size]!)) vs.toList = some us := hf
              rw [hf']
              simp [newRow]
          · exact Nat.le_trans (Nat.le_mul_of_pos_right len h3) h2
        · exact h.elim
      · exact h.elim
    · exact h.elim
  · exact h.elim

/-- A block of rows, every cell read, is a slice of them. -/
theorem rows_rd {rows : List (List AV)} {size b cap : Nat} {us : Array Value} {e : TypeId} {fr : Nat × Nat} (hrs : ∀ i, i < rows.length → (rows.getD i []).length = size) (hus : ∀ i, i < rows.flatten.length → (us.getD i undef).oneCell' = true ∧ RdI w F (rows.flatten.getD i .junk) (us.getD i undef))
    (hsz : rows.flatten.length ≤ us.size) (hb : F b) (hh : w.heap[b]? = some (.cells us e fr)) (hc : rows.length ≤ cap) (hm : cap ≤ maxLen) : RdI w F (.s rows) (.slice (some ⟨b, 0, none⟩) rows.length cap) := by
  have hfl := flat_length rows hrs
  have hlt : ∀ i j, i < rows.length → j < size → i * size + j < rows.flatten.length := fun i j hi hj => by
    rw [hfl]
    calc i * size + j < i * size + size := by omega
      _ = (i + 1) * size := by rw [Nat.add_mul]; omega
      _ ≤ rows.length * size := Nat.mul_le_mul_right _ hi
  refine .s (k := size) (u := fun i j => us.getD (i * size + j) undef) hb hc hm hrs (fun i j hi hj => ?_) (fun i j hi hj => (hus _ (hlt i j hi hj)).1) fun i j hi hj => ?_
  · rw [cell_of_row w b _ us e fr hh, Nat.zero_add]
    have := hlt i j hi hj
    have h2 : i * size + j < us.size := by omega
    simp [h2]
  · have := (hus _ (hlt i j hi hj)).2
    rwa [flat_getD rows i j hrs hi hj] at this


theorem immRows {rows : List (List AV)} {us : Array Value} (hi : rows.all (fun r => r.all imm0) = true) (h : RdL w F β rows.flatten us) :
    ∀ i, i < rows.flatten.length → (us.getD i undef).oneCell' = true ∧ RdI w F (rows.flatten.getD i .junk) (us.getD i undef) := by
  intro i hlt
  refine ⟨(h.2 i hlt).1, imm0_rd ?_ (h.2 i hlt).2⟩
  have hm : rows.flatten.getD i .junk ∈ rows.flatten := by
    rw [List.getD_eq_getElem?_getD, List.getElem?_eq_getElem hlt]; exact List.getElem_mem hlt
  obtain ⟨r, hr, hx⟩ := List.mem_flatten.1 hm
  exact List.all_eq_true.1 (List.all_eq_true.1 hi r hr) _ hx

theorem sBuildS_sound {t len : Nat} {parts : List (Nat × AV)} {vs : Array (Nat × Value)} (hT : TOk P T) (hI : Inv w F β H) (hl : parts.length = vs.size)
    (hv : ∀ i, i < parts.length → (parts.getD i (0, .junk)).1 = (vs.toList.getD i (0, undef)).1 ∧ Rd w F β (parts.getD i (0, .junk)).2 (vs.toList.getD i (0, undef)).2)
    (h : sBuildS T t len parts fun rows _ _ => bif rows.all (fun r => r.all imm0) then k (.s rows) else False) : Gives P (Instr.buildSlice t len vs) w F β k := by
  obtain ⟨rows, e, size, us, hk, _, hs, hrl, hrs, hus, hsz, hrun, hlen⟩ := run_buildSlice hT hl hv h
  obtain ⟨hi, hk⟩ := cond_prop hk
  have hb := below_alloc w (.cells us e)
  have hF := hI.fsize
  refine ⟨_, _, _, hrun, hb, hk, .i ?_⟩
  have himm := immRows hi hus
  rw [← hrl]
  refine rows_rd (size := size) (e := e) (fr := (0, 0)) hrs (fun i hi => ⟨(himm i hi).1, ((himm i hi).2.frame (Below.agree hb hF) fun _ h => .inl h)⟩) (by rw [hus.1]; exact Nat.le_refl _)
    (.inr ⟨Nat.le_refl _, by simp⟩) (heap_alloc_new w _) (Nat.le_refl _) (by rw [hrl]; unfold maxLen; omega)

theorem sMinMax_sound {mn : Bool} {xs : List AV} {vs : List Value} (hl : vs.length = xs.length) (hv : ∀ i, i < xs.length → Rd w F β (xs.getD i .junk) (vs.getD i undef)) (h : sMinMax mn xs k) (ts : Array TypeId) (ty : TypeId) :
    Gives P (if mn then Builtin.min_ ts ty vs.toArray else Builtin.max_ ts ty vs.toArray) w F β k := by
  unfold sMinMax at h
  split at h
  · rename_i kx a ky b
    obtain ⟨hb, r, rfl, hk⟩ := cond_prop h
    obtain rfl := beqK hb
    match vs, hl with
    | [u, v], _ =>
      have h0 := (hv 0 (by simp)).v_inv
      have h1 := (hv 1 (by simp)).v_inv
      simp at h0 h1
      subst h0; subst h1
      cases mn with
      | true =>
        refine Gives.mk (v := .int kx (min a b)) ?_ hk (.i (.v (.inl rfl)))
        simp [Builtin.min_, Builtin.min2]
        split <;> congr 2 <;> omega
      | false =>
        refine Gives.mk (v := .int kx (max a b)) ?_ hk (.i (.v (.inl rfl)))
        simp [Builtin.max_, Builtin.max2]
        split <;> congr 2 <;> omega
  · exact h.elim


theorem run_builtin_len (ts : Array TypeId) (ty : TypeId) (cs : Array Bool) (vs : Array Value) {k : AV → Prop} (h : Gives P (Builtin.len_ ts ty vs) w F β k) :
    QOut P (builtin .len ts ty cs vs) w fun v w' => ∃ r, k r ∧ Rd w' (FNew F w w') β r v := h.out

theorem sBuiltin_sound {b : Builtin} {ts : List Nat} {xs : List AV} {vs : List Value} (hT : TOk P T) (hI : Inv w F β H) (hl : vs.length = xs.length)
    (hv : ∀ i, i < xs.length → Rd w F β (xs.getD i .junk) (vs.getD i undef)) (h : sBuiltin T b ts xs H k) (ty : TypeId) (cs : Array Bool) :
    QOut P (builtin b ts.toArray ty cs vs.toArray) w fun v w' => ∃ r, k r ∧ Rd w' (FNew F w w') β r v := by
  unfold sBuiltin at h
  split at h
  · rename_i t x
    match vs, hl with
    | [u], _ =>
      exact (sLen_sound hT hI (by simpa using hv 0 (by simp)) h).out
  · rename_i t
    match vs, hl with
    | [u], _ =>
      have hu0 : Rd w F β (.v (.slice none 0 0)) u := by simpa using hv 0 (by simp)
      cases hu0.v_inv
      split at h
      · rename_i i hi
        split at h
        · rename_i e he
          have hu := (hT _ _ hi).slice he
          exact (Gives.mk (s := Builtin.cap_ #[t] ty #[.slice none 0 0]) (by simp [Builtin.cap_, run_underlying hu, goInt]) h (.i (.v (.inl rfl)))).out
        · exact h.elim
      · exact h.elim
  · exact (sMinMax_sound (mn := true) hl hv h ts.toArray ty).out
  · exact (sMinMax_sound (mn := false) hl hv h ts.toArray ty).out
  · exact h.elim

theorem sCall_sound {f : AV} {vf : Value} {xs : List AV} {vs : Array Value} (hI : Inv w F β H) (hf : Rd w F β f vf) (hl : vs.size = xs.length)
    (hv : ∀ i, i < xs.length → Rd w F β (xs.getD i .junk) (vs.getD i undef)) (h : sCall P f xs H k) :
    QOut P (do let d ← Deferred.ofValue vf vs; invoke d.target d.args) w fun v w' => ∃ r, k r ∧ Rd w' (FNew F w w') β r v := by
  unfold sCall at h
  split at h
  · rename_i g fs cs
    obtain ⟨r, ⟨⟨fn, c, hfn, hnm, hbody⟩, hp⟩, hk⟩ := h
    obtain ⟨us, ws, rfl, hs, hs', hu, hw⟩ := hf.c_inv
    refine .inr ⟨g, us ++ vs ++ ws, ?_, ?_⟩
    · have hnm' : ¬ fn.name = "runtime.NumGoroutine" := by simpa using hnm
      simp [Deferred.ofValue, invoke, callFunc, hfn, hnm', hbody]
    · refine (hp w F β (us ++ vs ++ ws) hI ?_ fun i hi => ?_).mono ?_
      · simp [hs, hl, hs']
      · simp only [List.length_append] at hi
        have e1 : (fs ++ (xs ++ cs)).getD i .junk = if i < fs.length then fs.getD i .junk else if i < fs.length + xs.length then xs.getD (i - fs.length) .junk else cs.getD (i - fs.length - xs.length) .junk := by
          simp only [List.getD, List.getElem?_append]
          by_cases h1 : i < fs.length
          · simp [h1]
          · by_cases h2 : i < fs.length + xs.length
            · simp [h1, h2, show i - fs.length < xs.length by omega]
            · simp [h1, h2, show ¬ i - fs.length < xs.length by omega]
        have e2 : (us ++ vs ++ ws).getD i undef = if i < fs.length then us.getD i undef else if i < fs.length + xs.length then vs.getD (i - fs.length) undef else ws.getD (i - fs.length - xs.length) undef := by
          simp only [Array.getD_eq_getD_getElem?, Array.getElem?_append, Array.size_append, hs, hl]
          by_cases h1 : i < fs.length
          · simp [h1, show i < fs.length + xs.length by omega]
          · by_cases h2 : i < fs.length + xs.length
            · simp [h1, h2]
            · simp [h1, h2, Nat.sub_sub]
        rw [e1, e2]
        by_cases h1 : i < fs.length
        · rw [if_pos h1, if_pos h1]; exact hu i h1
        · rw [if_neg h1, if_neg h1]
          by_cases h2 : i < fs.length + xs.length
          · rw [if_pos h2, if_pos h2]; exact hv _ (by omega)
          · rw [if_neg h2, if_neg h2]; exact hw _ (by omega)
      · rintro e w' ⟨v, rfl, hb, hr⟩
        exact ⟨v, rfl, hb, r, hk, .i hr⟩
  · exact h.elim

theorem sBuiltin_run {b : Builtin} {args : Array Operand} {argTypes : Array TypeId} {ρ : Operand → AV} {a : Act} {type : TypeId} (hT : TOk P T) (hI : Inv w F β H)
    (hargs : ∀ i, i < (args.toList.map ρ).length → Rd w F β ((args.toList.map ρ).getD i .junk) ((args.map a.eval).getD i undef)) (h : sBuiltin T b argTypes.toList (args.toList.map ρ) H k) :
    QOut P (do let d ← resolve a.eval { callee := .builtin b, args := args, argTypes := argTypes } type; invoke d.target d.args) w fun v w' => ∃ r, k r ∧ Rd w' (FNew F w w') β r v := by
  have h1 := sBuiltin_sound (P := P) (ts := argTypes.toList) (vs := (args.map a.eval).toList) hT hI (by simp) (fun i hi => by simpa using hargs i hi) h type (args.map fun | .const _ => true | _ => false)
  have e : (do let d ← resolve a.eval { callee := .builtin b, args := args, argTypes := argTypes } type; invoke d.target d.args : Sem Next) = builtin b argTypes type (args.map fun | .const _ => true | _ => false) (args.map a.eval) := rfl
  rw [e]
  exact h1

theorem sCall_run {f : Operand} {args : Array Operand} {argTypes : Array TypeId} {ρ : Operand → AV} {a : Act} {type : TypeId} (hI : Inv w F β H) (hf : Rd w F β (ρ f) (a.eval f))
    (hargs : ∀ i, i < (args.toList.map ρ).length → Rd w F β ((args.toList.map ρ).getD i .junk) ((args.map a.eval).getD i undef)) (h : sCall P (ρ f) (args.toList.map ρ) H k) :
    QOut P (do let d ← resolve a.eval { callee := .value f, args := args, argTypes := argTypes } type; invoke d.target d.args) w fun v w' => ∃ r, k r ∧ Rd w' (FNew F w w') β r v := by
  have e : (do let d ← resolve a.eval { callee := .value f, args := args, argTypes := argTypes } type; invoke d.target d.args : Sem Next) = (do let d ← Deferred.ofValue (a.eval f) (args.map a.eval); invoke d.target d.args) := rfl
  rw [e]
  exact sCall_sound hI hf (by simp) hargs h

theorem parts_len (ρ : Operand → AV) (e : Operand → Value) (parts : Array (Nat × Operand)) : (parts.toList.map fun q => (q.1, ρ q.2)).length = (parts.map fun x => (x.1, e x.2)).size := by simp

theorem parts_rd {ρ : Operand → AV} {e : Operand → Value} {parts : Array (Nat × Operand)} (h : ∀ x, (∃ i, (i, x) ∈ parts) → Rd w F β (ρ x) (e x)) (i : Nat) (hi : i < (parts.toList.map fun q => (q.1, ρ q.2)).length) :
    ((parts.toList.map fun q => (q.1, ρ q.2)).getD i (0, .junk)).1 = ((parts.map fun x => (x.1, e x.2)).toList.getD i (0, undef)).1 ∧
      Rd w F β ((parts.toList.map fun q => (q.1, ρ q.2)).getD i (0, .junk)).2 ((parts.map fun x => (x.1, e x.2)).toList.getD i (0, undef)).2 := by
  simp at hi
  have := h parts[i].2 ⟨parts[i].1, Array.getElem_mem hi⟩
  simpa [List.getD, hi] using this

theorem nz_rd {x : AV} {u : Value} (h : RdI w F x u) : RdI w F (nz x) u := by
  unfold nz
  split
  · cases h; exact .s0
  · exact h

theorem madeRow {z : Array Value} {n q : Nat} (h : q < n) : ((Array.range n).map (z[· % z.size]!)).getD q undef = z[q % z.size]! := by simp [h]

theorem sMake_sound {t : Nat} {l c : AV} {vl vc : Value} (hT : TOk P T) (hI : Inv w F β H) (hl : Rd w F β l vl) (hc : Rd w F β c vc) (h : sMake T t l c k) : Gives P (Instr.makeSlice t vl vc) w F β k := by
  unfold sMake at h
  split at h
  · rename_i i kl nl kc nc hi
    cases hl.v_inv; cases hc.v_inv
    split at h
    · rename_i e he
      have hu := (hT _ _ hi).slice he
      split at h
      · rename_i j hj
        obtain ⟨hb, n, m, rfl, rfl, hnm, hm, hby, R, rfl, hk⟩ := cond_prop h
        simp only [Bool.and_eq_true] at hb
        obtain ⟨hok, hlen, himm⟩ := hb
        have hlen : (cellsL (ofV j.zero)).length = j.cells := Nat.eq_of_beq_eq_true hlen
        have hz := cells_rd (ofV_rd w F j.zero β) hok
        have hzs : j.zero.cells.size = j.cells := by rw [hz.1, hlen]
        obtain ⟨inf, hinf, hzero, hsize, hbytes⟩ := (hT _ _ hj).info
        have hwn : IntKind.i64.wrap (n : Int) = (n : Int) := IntWalk.i64_in _ (by omega)
        have hwm : IntKind.i64.wrap (m : Int) = (m : Int) := IntWalk.i64_in _ (by omega)
        have hbm : (inf.bytes : Int) * (m : Int) ≤ 140737488355328 := by
          have h5 : ((m * j.bytes : Nat) : Int) = (j.bytes : Int) * (m : Int) := by rw [Int.natCast_mul, Int.mul_comm]
          rw [hbytes, ← h5]; omega
        have hrun : (Instr.makeSlice t (.int kl (n : Int)) (.int kc (m : Int))).run P w = .ok (.slice (some ⟨w.heap.size, 0, none⟩) n m) (w.alloc (.cells ((Array.range (m * j.cells)).map (j.zero.cells[· % j.zero.cells.size]!)) e)) := by
          have h1 : ¬ ((m : Int) < 0) := by omega
          have h2 : ¬ (281474976710656 < (inf.bytes : Int) * (m : Int)) := by omega
          have h3 : ¬ ((n : Int) < 0) := by omega
          have h4 : ¬ ((m : Int) < (n : Int)) := by omega
          by_cases h0 : m * j.cells = 0
          · have hr0 : Array.range (m * j.cells) = #[] := by rw [h0]; exact Array.eq_empty_of_size_eq_zero (by simp)
            simp [Instr.makeSlice, run_underlying hu, asInt, asIntOf, typeInfo, hinf, hwn, hwm, h1, h2, h3, h4, sizeOf, hsize, h0, newRow]
            rw [h0] at hr0
            simp [hr0]
          · simp [Instr.makeSlice, run_underlying hu, asInt, asIntOf, typeInfo, hinf, hwn, hwm, h1, h2, h3, h4, sizeOf, hsize, h0, newRow, zeroValue, hzero]
        let w' := w.alloc (.cells ((Array.range (m * j.cells)).map (j.zero.cells[· % j.zero.cells.size]!)) e)
        have hbel := below_alloc w (.cells ((Array.range (m * j.cells)).map (j.zero.cells[· % j.zero.cells.size]!)) e)
        have hheap : w'.heap[w.heap.size]? = some (.cells ((Array.range (m * j.cells)).map (j.zero.cells[· % j.zero.cells.size]!)) e (0, 0)) := by
          show (w.heap.push _)[w.heap.size]? = _
          exact Array.getElem?_push_size
        refine ⟨_, _, _, hrun, hbel, hk, .i ?_⟩
        have := RdI.s (w := w') (F := FNew F w w') (rows := List.replicate n ((cellsL (ofV j.zero)).map nz)) (b := w.heap.size) (off := 0) (c := m) (k := j.cells) (u := fun q z => ((Array.range (m * j.cells)).map (j.zero.cells[· % j.zero.cells.size]!)).getD (q * j.cells + z) undef)
          (.inr ⟨Nat.le_refl _, by simp [w']⟩) (by simpa using hnm) (by unfold maxLen; omega) (fun q hq => by simp at hq; simp [List.getD, hq, hlen]) (fun q z hq hz' => ?_) (fun q z hq hz' => ?_) (fun q z hq hz' => ?_)
        · simpa using this
        all_goals
          simp only [List.length_replicate] at hq
          have hlt : q * j.cells + z < m * j.cells := by
            calc q * j.cells + z < q * j.cells + j.cells := by omega
              _ = (q + 1) * j.cells := by rw [Nat.add_mul]; omega
              _ ≤ m * j.cells := Nat.mul_le_mul_right _ (by omega)
        · rw [cell_of_row _ _ _ _ _ _ hheap, Nat.zero_add]
          simp [hlt]
        all_goals
          rw [madeRow hlt, hzs]
          have e1 : (q * j.cells + z) % j.cells = z := by rw [Nat.mul_comm, Nat.mul_add_mod]; exact Nat.mod_eq_of_lt hz'
          rw [e1]
          have h2 := hz.2 z (by omega)
          have e2 : j.zero.cells[z]! = j.zero.cells.getD z undef := by
            have : z < j.zero.cells.size := by omega
            simp [this]
          rw [e2]
        · exact h2.1
        · have e3 : ((List.replicate n ((cellsL (ofV j.zero)).map nz)).getD q []).getD z .junk = nz ((cellsL (ofV j.zero)).getD z .junk) := by
            have hz2 : z < (cellsL (ofV j.zero)).length := by omega
            simp [List.getD, hq, hz2]
          rw [e3]
          refine (nz_rd (imm0_rd (List.all_eq_true.1 himm _ ?_) h2.2)).frame (Below.agree hbel hI.fsize) fun _ h => .inl h
          rw [List.getD_eq_getElem?_getD, List.getElem?_eq_getElem (show z < (cellsL (ofV j.zero)).length by omega)]; exact List.getElem_mem _
      · exact h.elim
    · exact h.elim
  · exact h.elim

theorem stepS_sound {o : Oper} {ρ : Operand → AV} {a : Act} (hT : TOk P T) (hI : Inv w F β H) (hρ : ∀ x, x ∈ o.op.operands → Rd w F β (ρ x) (a.eval x))
    (h : stepS P T o ρ H k) : QOut P (execOp a.eval o) w fun v w' => ∃ r, k r ∧ Rd w' (FNew F w w') β r v := by
  obtain ⟨dst, op, type, pos, after, guard⟩ := o
  cases op <;> simp only [stepS] at h <;> simp only [Op.operands] at hρ <;> simp only [execOp]
  case move x => exact .inl ⟨_, w, rfl, Below.refl _ _, _, h, (hρ x (by simp)).here⟩
  case assign x => exact .inl ⟨_, w, rfl, Below.refl _ _, _, h, (hρ x (by simp)).here⟩
  case pick c x y => exact sPick_sound (hρ c (by simp)) (hρ x (by simp)) (hρ y (by simp)) h
  case extract t i => exact (sExtract_sound (hρ t (by simp)) h).out
  case unOp op t x => exact (sUn_sound (hρ x (by simp)) h).out
  case binOp op t x y t' => exact (sBin_sound hT (hρ x (by simp)) (hρ y (by simp)) x y h).out
  case convert s d x => exact (sConv_sound hT (hρ x (by simp)) h).out
  case fieldAddr t x f => exact (sFieldA_sound hT (hρ x (by simp)) h).out
  case load t x => exact (sLoad_sound hT hI (hρ x (by simp)) h).out
  case indexAddr t x i => exact (sIndexA_sound hT hI (hρ x (by simp)) (hρ i (by simp)) h).out
  case lookup t x i c => exact (sLookup_sound hT hI (hρ x (by simp)) (hρ i (by simp)) h).out
  case index t x i => exact (sIndex_sound hT (hρ x (by simp)) (hρ i (by simp)) h).out
  case slice t x lo hi mx =>
    cases mx with
    | some m => unfold sSlice at h; split at h <;> first | exact h.elim | (rename_i hm; cases hm)
    | none =>
      refine (sSlice_sound (vlo := lo.map a.eval) (vhi := hi.map a.eval) hT (hρ x (by simp)) ?_ ?_ hI h).out
      · cases lo with
        | none => exact True.intro
        | some l => exact hρ l (by simp)
      · cases hi with
        | none => exact True.intro
        | some l => exact hρ l (by simp)
  case build t parts =>
    exact (sBuild_sound hT (parts_len ρ a.eval parts) (parts_rd fun x hx => hρ x (by simpa using hx)) h).out
  case buildSlice t n parts =>
    exact (sBuildS_sound hT hI (parts_len ρ a.eval parts) (parts_rd fun x hx => hρ x (by simpa using hx)) h).out
  case makeFunc fn fs cs =>
    refine .inl ⟨_, w, rfl, Below.refl _ _, _, h, ?_⟩
    refine .c (by simp) (by simp) (fun i hi => ?_) fun i hi => ?_
    · simp at hi
      have := hρ (fs[i]) (by simp)
      simpa [List.getD, hi] using this.here
    · simp at hi
      have := hρ (cs[i]) (by simp)
      simpa [List.getD, hi] using this.here
  case nilCheck x =>
    obtain ⟨⟨r, hk, hr⟩, hs⟩ := sNil_sound (hρ x (by simp)) h
    generalize a.eval x = vx at hr hs ⊢
    rcases hs with ⟨a, rfl⟩ | ⟨g, fs, cs, rfl⟩
    · exact .inl ⟨_, w, rfl, Below.refl _ _, _, hk, hr.here⟩
    · exact .inl ⟨_, w, rfl, Below.refl _ _, _, hk, hr.here⟩
  case makeSlice t l c => exact (sMake_sound hT hI (hρ l (by simp)) (hρ c (by simp)) h).out
  case call c =>
    obtain ⟨callee, args, argTypes⟩ := c
    have hargs : ∀ i, i < (args.toList.map ρ).length → Rd w F β ((args.toList.map ρ).getD i .junk) ((args.map a.eval).getD i undef) := fun i hi => by
      simp at hi
      have := hρ args[i] (by simp [Call.operands])
      simpa [List.getD, hi] using this
    cases callee with
    | builtin b => exact sBuiltin_run hT hI hargs h
    | value f => exact sCall_run hI (hρ f (by simp [Call.operands])) hargs h
    | invoke r m => exact h.elim
  all_goals exact h.elim

end
end Go.Cat
