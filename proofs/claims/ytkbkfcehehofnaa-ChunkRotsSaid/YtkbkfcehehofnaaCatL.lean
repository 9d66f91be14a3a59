/- The machine agrees with 'step': all operations together. No condition. -/
import Derived.Test.YtkbkfcehehofnaaCatK
import Derived.Test.YtkbkfcehehofnaaCat9
namespace Go.Cat
set_option linter.all false
open Go.RowKit
variable [M : Mono]

section
variable {P : Program} {T : TT} {w : World} {F : Nat → Prop} {β : Nat → Value} {st : ASt} {k : AV → ASt → Prop}

theorem appSrc_spec {t t' e no : Nat} {i j : TI} {x : AV} {vx : Value} {kk : List (List AV) → Prop} (hT : TOk P T) (hI : Inv w F β st.H) (hi : T t = some i) (he : i.kind = .slice e) (_hj : T e = some j) (hx : Rd w F β x vx) (h : appSrc T t t' e x no st.H kk) (hk : ∀ rows, kk rows → RowsLen rows j.cells) :
    ∃ rows, kk rows ∧ ∃ news, Go.Src P j.cells t' vx rows.length news w ∧ SrcR w F j.cells rows news := by
  unfold appSrc at h
  cases hb : Nat.beq t t' with
  | true =>
    rw [hb] at h
    obtain rfl := Nat.eq_of_beq_eq_true hb
    have hu := (hT _ _ hi).slice he
    obtain ⟨rows, hkk, hx'⟩ := srcRows_spec hI hx h hk
    refine ⟨rows, hkk, ?_⟩
    rcases hx' with ⟨rfl, rfl⟩ | ⟨ad, c, news, rfl, hs⟩
    · exact ⟨[], Go.Src.ofNil w hu 0, ⟨by simp, fun u hu => by simp at hu, fun i j hi => by simp at hi⟩⟩
    · exact ⟨news, Go.Src.ofSlice w hu ad rows.length c news hs.len hs.cell hs.one, ⟨hs.len, hs.one, hs.rd⟩⟩
  | false =>
    rw [hb] at h
    simp only [cond_false] at h
    split at h
    · rename_i i' je s hi' hje
      split at h
      · rename_i hstr hu8
        obtain ⟨hc1, h⟩ := cond_prop h
        have hj : j = je := by rw [_hj] at hje; exact Option.some.inj hje
        have hc1 : j.cells = 1 := by rw [hj]; exact Nat.eq_of_beq_eq_true hc1
        have hu := (hT _ _ hi').str hstr
        cases hx.v_inv
        refine ⟨_, h, byteCells s, ?_, ?_⟩
        · rw [hc1]
          have := Go.Src.ofString w hu s
          have e : (s.data.toList.map encB).length = s.size := by rw [List.length_map, Array.length_toList]; rfl
          rw [e]; exact this
        · rw [hc1]
          refine ⟨by simp [byteCells], fun u hu => by obtain ⟨_, _, rfl⟩ := List.mem_map.1 hu; rfl, fun a b ha hb => ?_⟩
          have hb0 : b = 0 := by omega
          subst hb0
          have ha' : a < s.data.toList.length := by simpa using ha
          have e1 : ((s.data.toList.map encB).getD a []).getD 0 .junk = .v (.int .u8 ((s.data.toList[a]).toNat : Int)) := by
            have e0 : (s.data.toList.map encB).getD a [] = encB (s.data.toList[a]) := by rw [List.getD_eq_getElem?_getD, List.getElem?_map, List.getElem?_eq_getElem ha']; rfl
            rw [e0]; rfl
          have e2 : (byteCells s).getD (a * 1 + 0) undef = .int .u8 ((s.data.toList[a]).toNat : Int) := by
            rw [Nat.mul_one, Nat.add_zero, List.getD_eq_getElem?_getD]
            unfold byteCells
            rw [List.getElem?_map, List.getElem?_eq_getElem ha']; rfl
          rw [e1, e2]
          exact .v (.inl rfl)
      · exact h.elim
    · exact h.elim

theorem eAppend_sound {t t' d : Nat} {s x : AV} {vs vx : Value} (hd : d < 1000) (hT : TOk P T) (hI : Inv w F β st.H) (hs : Rd w F β s vs) (hx : Rd w F β x vx) (h : eAppend T t t' s x d st k) (ty : TypeId) :
    EOut P (do pure (.value (← Builtin.append_ #[t, t'] ty #[vs, vx]))) w F β st k := by
  unfold eAppend at h
  split at h
  · rename_i i hi
    split at h
    · rename_i e he
      split at h
      · rename_i j hj
        cases hb : (Nat.beq j.bytes 0 || (Nat.beq j.cells 0 || !(Nat.beq j.zero.cells.size j.cells))) with
        | true => rw [hb] at h; exact h.elim
        | false =>
          rw [hb] at h
          simp only [cond_false] at h
          simp only [Bool.or_eq_false_iff, Bool.not_eq_false'] at hb
          obtain ⟨hb0, _, hz⟩ := hb
          have hz : j.zero.cells.size = j.cells := Nat.eq_of_beq_eq_true hz
          have hb0 : j.bytes ≠ 0 := fun e => by rw [e] at hb0; cases hb0
          split at h
          · cases hs.v_inv
            obtain ⟨rows', ⟨hlen, hby, R, rfl, hk⟩, hx'⟩ := appSrc_spec hT hI hi he hj hx h fun rows h => h.1
            obtain ⟨v', w', hr, hp⟩ := append_sound (P := P) (L := d) (ty := ty) (rows := []) hd hT hI hi he hj hb0 hz (.inl ⟨rfl, rfl⟩) hx' hlen (by simpa using hby) (by simpa using hk)
            exact EOut.value hr hp
          · rename_i id
            split at h
            · rename_i E K rows hc
              obtain ⟨hEK, h'⟩ := cond_prop h
              clear h
              simp only [Bool.and_eq_true] at hEK
              have hid : id < 1000 := by simpa using hEK.2
              obtain rfl := Nat.eq_of_beq_eq_true hEK.1.1
              obtain rfl := Nat.eq_of_beq_eq_true hEK.1.2
              obtain ⟨rows', ⟨hlen, hby, R, rfl, hk⟩, hx'⟩ := appSrc_spec hT hI hi he hj hx h' fun rows h => h.1
              obtain ⟨a, n, c, hβ, rfl⟩ := hs.o_inv
              obtain ⟨v', w', hr, hp⟩ := append_sound (P := P) (L := id) (ty := ty) hid hT hI hi he hj hb0 hz (.inr ⟨findC_mem hc, hβ⟩) hx' hlen hby hk
              exact EOut.value hr hp
            · exact h.elim
          · exact h.elim
      · exact h.elim
    · exact h.elim
  · exact h.elim

/-- A value without room is a slice of the call's own. -/
theorem empty_out {d e K : Nat} {a : Option Addr} (hd : d < 1000) (hI : Inv w F β st.H) (hk : k (.o d) (bindSt st d (.own e K []))) : EPost w F β st k (.slice a 0 0) w := by
  refine ⟨_, _, F, fun q => if q = d then .slice a 0 0 else β q, hk, .o (by simp), ext_bind (v := .slice a 0 0) hd hI rfl ⟨rfl, fun _ => (by first | exact Nat.le_refl _ | exact Nat.le_succ _)⟩ rfl (Nat.le_refl _) (fun _ _ _ => rfl) (fun _ _ _ _ _ _ => rfl) (fun b hb => ?_) (.inl ⟨rfl, a, by simp⟩)⟩
  cases a <;> simp [blkOf] at hb

theorem eSlice0_sound {t d : Nat} {x : AV} {vx : Value} {lo hi mx : Option AV} {vlo vhi vmx : Option Value} (hd : d < 1000) (hT : TOk P T) (hI : Inv w F β st.H) (hx : Rd w F β x vx) (hlo : BoundV lo vlo w F β) (hhi : BoundV hi vhi w F β) (hmx : BoundV mx vmx w F β)
    (h : eSlice0 T t x lo hi mx d st k) : EOut P (do pure (.value (← Instr.sliceAt t vx vlo vhi vmx))) w F β st k := by
  unfold eSlice0 at h
  split at h
  · rename_i i hi'
    split at h
    · rename_i e k1 k2 he
      have hu := (hT _ _ hi').slice he
      cases vlo with
      | some v => exact hlo.elim
      | none =>
        cases vhi with
        | none => exact hhi.elim
        | some v1 =>
          cases vmx with
          | none => exact hmx.elim
          | some v2 =>
            cases (show Rd w F β _ v1 from hhi).v_inv
            cases (show Rd w F β _ v2 from hmx).v_inv
            split at h
            · rename_i j hj
              have hsz := (hT _ _ hj).run_size w
              have hrun : ∀ a n c, (Instr.sliceAt t (.slice a n c) none (some (.int k1 0)) (some (.int k2 0))).run P w = .ok (.slice a 0 0) w := fun a n c => by
                simp [Instr.sliceAt, Instr.slice, Instr.sliceBounds, Instr.sliceBound, asIntOf, run_underlying hu, hsz]
              split at h
              · rcases hx.s_inv.s_form with ⟨_, a, rfl⟩ | ⟨b, off, c, K', v, _, _, _, rfl, _⟩
                · exact EOut.value (hrun _ _ _) (empty_out hd hI h)
                · exact EOut.value (hrun _ _ _) (empty_out hd hI h)
              · obtain ⟨a, n, c, _, rfl⟩ := hx.o_inv
                exact EOut.value (hrun _ _ _) (empty_out hd hI h)
              · cases hx.v_inv
                exact EOut.value (hrun _ _ _) (empty_out hd hI h)
              · exact h.elim
            · exact h.elim
    · exact h.elim
  · exact h.elim

theorem eBuildS_sound {t n d : Nat} {parts : List (Nat × AV)} {vs : Array (Nat × Value)} (hd : d < 1000) (hT : TOk P T) (hI : Inv w F β st.H) (hl : parts.length = vs.size)
    (hv : ∀ i, i < parts.length → (parts.getD i (0, .junk)).1 = (vs.toList.getD i (0, undef)).1 ∧ Rd w F β (parts.getD i (0, .junk)).2 (vs.toList.getD i (0, undef)).2)
    (h : eBuildS T t n parts d st k) : EOut P (do pure (.value (← Instr.buildSlice t n vs))) w F β st k := by
  obtain ⟨rows, e, size, us, hk, _, hs, hrl, hrs, hus, hsz, hrun, hlen⟩ := run_buildSlice hT hl hv h
  obtain ⟨hi, hk⟩ := cond_prop hk
  have himm := immRows hi hus
  refine EOut.value hrun ?_
  have := own_fresh (d := d) (E := e) (K := size) (cap := n) (rows := rows) (us := us) (w1 := w) (k := k) hd hI rfl rfl ⟨rfl, fun _ => (by first | exact Nat.le_refl _ | exact Nat.le_succ _)⟩ rfl hsz (by omega) (by unfold maxLen; omega) hrs (fun i j hi hj => ?_) hk
  · rwa [hrl] at this
  · have hlt : i * size + j < rows.flatten.length := by
      rw [flat_length rows hrs]
      calc i * size + j < i * size + size := by omega
        _ = (i + 1) * size := by rw [Nat.add_mul]; omega
        _ ≤ rows.length * size := Nat.mul_le_mul_right _ hi
    have := himm _ hlt
    rwa [flat_getD rows i j hrs hi hj] at this

theorem eMake_sound {t d : Nat} {l c : AV} {vl vc : Value} (hd : d < 1000) (hT : TOk P T) (hI : Inv w F β st.H) (hl : Rd w F β l vl) (hc : Rd w F β c vc) (h : eMake T t l c d st k) :
    EOut P (do pure (.value (← Instr.makeSlice t vl vc))) w F β st k := by
  unfold eMake at h
  split at h
  · rename_i i kl nl kc nc hi
    cases hl.v_inv; cases hc.v_inv
    split at h
    · rename_i e he
      have hu := (hT _ _ hi).slice he
      split at h
      · rename_i j hj
        obtain ⟨hb, n, m, rfl, rfl, hnm, hm, hby, R, rfl, hk⟩ := cond_prop h
        simp only [Bool.and_eq_true] at hb
        obtain ⟨hok, hlen, himm⟩ := hb
        have hlen : (cellsL (ofV j.zero)).length = j.cells := Nat.eq_of_beq_eq_true hlen
        have hz := cells_rd (ofV_rd w F j.zero β) hok
        have hzs : j.zero.cells.size = j.cells := by rw [hz.1, hlen]
        obtain ⟨inf, hinf, hzero, hsize, hbytes⟩ := (hT _ _ hj).info
        have hwn : IntKind.i64.wrap (n : Int) = (n : Int) := IntWalk.i64_in _ (by omega)
        have hwm : IntKind.i64.wrap (m : Int) = (m : Int) := IntWalk.i64_in _ (by omega)
        have hbm : (inf.bytes : Int) * (m : Int) ≤ 140737488355328 := by
          have h5 : ((m * j.bytes : Nat) : Int) = (j.bytes : Int) * (m : Int) := by rw [Int.natCast_mul, Int.mul_comm]
          rw [hbytes, ← h5]; omega
        have hrun : (Instr.makeSlice t (.int kl (n : Int)) (.int kc (m : Int))).run P w = .ok (.slice (some ⟨w.heap.size, 0, none⟩) n m) (w.alloc (.cells ((Array.range (m * j.cells)).map (j.zero.cells[· % j.zero.cells.size]!)) e)) := by
          have h1 : ¬ ((m : Int) < 0) := by omega
          have h2 : ¬ (281474976710656 < (inf.bytes : Int) * (m : Int)) := by omega
          have h3 : ¬ ((n : Int) < 0) := by omega
          have h4 : ¬ ((m : Int) < (n : Int)) := by omega
          by_cases h0 : m * j.cells = 0
          · have hr0 : Array.range (m * j.cells) = #[] := by rw [h0]; exact Array.eq_empty_of_size_eq_zero (by simp)
            simp [Instr.makeSlice, run_underlying hu, asInt, asIntOf, typeInfo, hinf, hwn, hwm, h1, h2, h3, h4, sizeOf, hsize, h0, newRow]
            rw [h0] at hr0
            simp [hr0]
          · simp [Instr.makeSlice, run_underlying hu, asInt, asIntOf, typeInfo, hinf, hwn, hwm, h1, h2, h3, h4, sizeOf, hsize, h0, newRow, zeroValue, hzero]
        refine EOut.value hrun ?_
        have := own_fresh (d := d) (E := e) (K := j.cells) (cap := m) (rows := List.replicate n ((cellsL (ofV j.zero)).map nz)) (us := (Array.range (m * j.cells)).map (j.zero.cells[· % j.zero.cells.size]!)) (w1 := w) (k := k)
          hd hI rfl rfl ⟨rfl, fun _ => (by first | exact Nat.le_refl _ | exact Nat.le_succ _)⟩ rfl (by simp) (by simpa using hnm) (by unfold maxLen; omega) (fun q hq => ?_) (fun q z hq hz' => ?_) hk
        · simpa using this
        · simp at hq; simp [List.getD, hq, hlen]
        · simp at hq
          have hlt : q * j.cells + z < m * j.cells := by
            calc q * j.cells + z < q * j.cells + j.cells := by omega
              _ = (q + 1) * j.cells := by rw [Nat.add_mul]; omega
              _ ≤ m * j.cells := Nat.mul_le_mul_right _ (by omega)
          rw [madeRow hlt, hzs]
          have e1 : (q * j.cells + z) % j.cells = z := by rw [Nat.mul_comm, Nat.mul_add_mod]; exact Nat.mod_eq_of_lt hz'
          rw [e1]
          have h2 := hz.2 z (by omega)
          have e2 : j.zero.cells[z]! = j.zero.cells.getD z undef := by
            have : z < j.zero.cells.size := by omega
            simp [this]
          have e3 : ((List.replicate n ((cellsL (ofV j.zero)).map nz)).getD q []).getD z .junk = nz ((cellsL (ofV j.zero)).getD z .junk) := by
            have hz2 : z < (cellsL (ofV j.zero)).length := by omega
            simp [List.getD, hq, hz2]
          rw [e2, e3]
          refine ⟨h2.1, nz_rd (imm0_rd (List.all_eq_true.1 himm _ ?_) h2.2)⟩
          rw [List.getD_eq_getElem?_getD, List.getElem?_eq_getElem (show z < (cellsL (ofV j.zero)).length by omega)]; exact List.getElem_mem _
      · exact h.elim
    · exact h.elim
  · exact h.elim

theorem eAppendZ_sound {t t' d : Nat} {s x : AV} {vs vx : Value} (hd : d < 1000) (hT : TOk P T) (hI : Inv w F β st.H) (hs : Rd w F β s vs) (hx : Rd w F β x vx) (h : eAppendZ T t t' s x d st k) (ty : TypeId) :
    EOut P (do pure (.value (← Builtin.append_ #[t, t'] ty #[vs, vx]))) w F β st k := by
  unfold eAppendZ at h
  split at h
  · rename_i i i' kx nx hi hi'
    cases hs.v_inv; cases hx.v_inv
    split at h
    · rename_i e ki he he'
      have hu := (hT _ _ hi).slice he
      have hu' := (hT _ _ hi').int he'
      split at h
      · rename_i j hj
        cases hb : (Nat.beq j.bytes 0 || (Nat.beq j.cells 0 || !(okCells (ofV j.zero) && (Nat.beq (cellsL (ofV j.zero)).length j.cells && (cellsL (ofV j.zero)).all imm0)))) with
        | true => rw [hb] at h; exact h.elim
        | false =>
          rw [hb] at h
          simp only [Bool.or_eq_false_iff, Bool.not_eq_false', Bool.and_eq_true] at hb
          obtain ⟨hb0, hc0, hok, hlen, himm⟩ := hb
          have hlen : (cellsL (ofV j.zero)).length = j.cells := Nat.eq_of_beq_eq_true hlen
          have hb0 : j.bytes ≠ 0 := fun e => by rw [e] at hb0; cases hb0
          have hc0 : j.cells ≠ 0 := fun e => by rw [e] at hc0; cases hc0
          obtain ⟨n, rfl, hby, R, rfl, hk⟩ := h
          have hz := cells_rd (ofV_rd w F j.zero β) hok
          have hzs : j.zero.cells.size = j.cells := by rw [hz.1, hlen]
          obtain ⟨inf, hinf, hzero, hsize, hbytes⟩ := (hT _ _ hj).info
          have hn : n ≤ 140737488355328 := Nat.le_trans (Nat.le_mul_of_pos_right _ (Nat.pos_of_ne_zero hb0)) hby
          have hwn : IntKind.i64.wrap (n : Int) = (n : Int) := IntWalk.i64_in _ (by omega)
          have hby' : (n : Int) * (j.bytes : Int) ≤ 140737488355328 := by
            have h5 : ((n * j.bytes : Nat) : Int) = (n : Int) * (j.bytes : Int) := Int.natCast_mul _ _
            rw [← h5]; omega
          by_cases h0 : n = 0
          · subst h0
            have hrun : (Builtin.append_ #[t, t'] ty #[.slice none 0 0, .int kx ((0 : Nat) : Int)]).run P w = .ok (.slice none 0 0) w := by
              have hw0 : IntKind.i64.wrap 0 = 0 := rfl
              simp [Builtin.append_, run_underlying hu, run_underlying hu', sizeOf, typeInfo, hinf, asInt, asIntOf, hw0]
            exact EOut.value hrun (empty_out hd hI (by simpa using hk))
          · have hml : n ≤ maxLen := by unfold maxLen; omega
            have hgc := grownCap_ge w n 0 e
            have hgm := grownCap_le_maxLen w n 0 e hml
            have h1 : ¬ ((n : Int) < 0) := by omega
            have h2 : ¬ (281474976710656 < (n : Int) * (inf.bytes : Int)) := by rw [hbytes]; omega
            have h3 : ¬ (9223372036854775807 < (n : Int)) := by omega
            have h4 : ¬ (281474976710656 < Builtin.nextslicecap n 0 * inf.bytes) := by rw [nextslicecap_zero (by omega), hbytes]; omega
            have h5 : n * inf.size ≠ 0 := by rw [hsize]; exact Nat.mul_ne_zero h0 hc0
            have hrun : (Builtin.append_ #[t, t'] ty #[.slice none 0 0, .int kx (n : Int)]).run P w = .ok (.slice (some ⟨w.heap.size, 0, none⟩) n (grownCap w n 0 e)) (w.drew.alloc (.cells (Builtin.zeroCells j.zero.cells n ++ Builtin.zeroCells j.zero.cells (grownCap w n 0 e - n)) e)) := by
              simp [Builtin.append_, run_underlying hu, run_underlying hu', sizeOf, typeInfo, hinf, asInt, asIntOf, hwn, h1, h2, h3, h4, h0, zeroValue, hzero, Question.forced, run_firstCells_none, newRow, grownCap]
              intro h7
              exact absurd h7 h5
            refine EOut.value hrun ?_
            have := own_fresh (d := d) (E := e) (K := j.cells) (cap := grownCap w n 0 e) (rows := List.replicate n ((cellsL (ofV j.zero)).map nz)) (us := Builtin.zeroCells j.zero.cells n ++ Builtin.zeroCells j.zero.cells (grownCap w n 0 e - n)) (w1 := w.drew) (k := k)
              hd hI rfl rfl ⟨rfl, fun _ => (by first | exact Nat.le_refl _ | exact Nat.le_succ _)⟩ rfl (by simp only [Array.size_append, zeros_size, hzs, ← Nat.add_mul]; congr 1; omega) (by simpa using hgc) hgm (fun q hq => ?_) (fun q z hq hz' => ?_) hk
            · simpa using this
            · simp at hq; simp [List.getD, hq, hlen]
            · simp at hq
              have hlt : q * j.cells + z < n * j.cells := by
                calc q * j.cells + z < q * j.cells + j.cells := by omega
                  _ = (q + 1) * j.cells := by rw [Nat.add_mul]; omega
                  _ ≤ n * j.cells := Nat.mul_le_mul_right _ (by omega)
              have e0 : (Builtin.zeroCells j.zero.cells n ++ Builtin.zeroCells j.zero.cells (grownCap w n 0 e - n)).getD (q * j.cells + z) undef = j.zero.cells[(q * j.cells + z) % j.zero.cells.size]! := by
                simp [Array.getElem?_append, Builtin.zeroCells, hzs, hlt]
              rw [e0, hzs]
              have e1 : (q * j.cells + z) % j.cells = z := by rw [Nat.mul_comm, Nat.mul_add_mod]; exact Nat.mod_eq_of_lt hz'
              rw [e1]
              have h2 := hz.2 z (by omega)
              have e2 : j.zero.cells[z]! = j.zero.cells.getD z undef := by
                have : z < j.zero.cells.size := by omega
                simp [this]
              have e3 : ((List.replicate n ((cellsL (ofV j.zero)).map nz)).getD q []).getD z .junk = nz ((cellsL (ofV j.zero)).getD z .junk) := by
                have hz2 : z < (cellsL (ofV j.zero)).length := by omega
                simp [List.getD, hq, hz2]
              rw [e2, e3]
              refine ⟨h2.1, nz_rd (imm0_rd (List.all_eq_true.1 himm _ ?_) h2.2)⟩
              rw [List.getD_eq_getElem?_getD, List.getElem?_eq_getElem (show z < (cellsL (ofV j.zero)).length by omega)]; exact List.getElem_mem _
      · exact h.elim
    · exact h.elim
  · exact h.elim

theorem eSliceH_sound {t : Nat} {x : AV} {vx : Value} {hi : Option AV} {vhi : Option Value} (hT : TOk P T) (hI : Inv w F β st.H) (hx : Rd w F β x vx) (hhi : BoundV hi vhi w F β) (h : eSliceH T t x hi st k) :
    EOut P (do pure (.value (← Instr.sliceAt t vx none vhi none))) w F β st k := by
  unfold eSliceH at h
  split at h
  · rename_i i id kh nh hi'
    split at h
    · rename_i e he
      have hu := (hT _ _ hi').slice he
      cases vhi with
      | none => exact hhi.elim
      | some v1 =>
        cases (show Rd w F β _ v1 from hhi).v_inv
        split at h
        · rename_i j hj
          have hsz := (hT _ _ hj).run_size w
          split at h
          · rename_i E K rows hc
            obtain ⟨hKd, m, rfl, hm, R, rfl, hk⟩ := cond_prop h
            have hid : id < 1000 := by
              simp only [Bool.and_eq_true] at hKd
              simpa using hKd.2
            have hmem := findC_mem hc
            obtain ⟨a, n, c, hβ, rfl⟩ := hx.o_inv
            have hrun : n = rows.length → rows.length ≤ c → (Instr.sliceAt t (.slice a n c) none (some (.int kh (m : Int))) none).run P w = .ok (.slice a m c) w := fun hn hc' => by
              have hb := run_bounds (P := P) (w := w) (is := true) (lo := none) (hi := some (.int kh (m : Int))) (len := rows.length) (cap := c) (l := 0) (h := m) (.inl ⟨rfl, rfl⟩) (.inr ⟨_, rfl⟩) (Nat.zero_le _) hm hc'
              subst hn
              have hs : (Instr.sliceAt t (.slice a rows.length c) none (some (.int kh (m : Int))) none).run P w = .ok (.slice (if c = 0 then a else a.map (·.add (0 * j.cells))) (m - 0) (c - 0)) w := by
                simp [Instr.sliceAt, Instr.slice, run_underlying hu, hb, hsz]
              rw [hs]
              have : (if c = 0 then a else a.map (·.add (0 * j.cells))) = a := by
                split
                · rfl
                · cases a <;> simp [Addr.add]
              rw [this]; simp
            rcases hI.holds _ _ hmem with ⟨rfl, a', hv⟩ | ⟨g, cap, cur, hv, hcap, hg, hn, hmx, hcs, hK, hr⟩
            · rw [hβ] at hv
              cases hv
              have hm0 : m = 0 := by simpa using hm
              subst hm0
              refine EOut.value (hrun rfl (Nat.le_refl _)) ⟨_, _, F, fun q => if q = id then .slice a 0 0 else β q, hk, .o (by simp), ext_bind (v := .slice a 0 0) hid hI rfl ⟨rfl, fun _ => (by first | exact Nat.le_refl _ | exact Nat.le_succ _)⟩ rfl (Nat.le_refl _) (fun _ _ _ => rfl) (fun _ _ _ _ _ _ => rfl) (fun b hb => ?_) (.inl ⟨by simp, a, by simp⟩)⟩
              cases a <;> simp [blkOf] at hb
            · rw [hβ] at hv
              cases hv
              refine EOut.value (hrun rfl hn) ⟨_, _, F, fun q => if q = id then .slice (some ⟨g, 0, none⟩) m c else β q, hk, .o (by simp), ext_bind (v := .slice (some ⟨g, 0, none⟩) m c) hid hI rfl ⟨rfl, fun _ => (by first | exact Nat.le_refl _ | exact Nat.le_succ _)⟩ rfl (Nat.le_refl _) (fun _ _ _ => rfl) (fun _ _ _ _ _ _ => rfl) (fun b hb => .inr ⟨_, hmem, ?_⟩) (.inr ?_)⟩
              · rw [hβ]; simpa [blkOf] using hb
              · have hlen : (rows.take m).length = m := by simp; omega
                have htk : ∀ q, q < m → (rows.take m).getD q [] = rows.getD q [] := fun q hq => by simp [List.getD, hq]
                refine ⟨g, c, cur, by simp [hlen], hcap, hg, by omega, hmx, hcs, fun q hq => ?_, fun q z hq hz => ?_⟩
                · rw [hlen] at hq; rw [htk q hq]; exact hK q (by omega)
                · rw [hlen] at hq; rw [htk q hq]; exact hr q z (by omega) hz
          · exact h.elim
        · exact h.elim
    · exact h.elim
  · exact h.elim

theorem args_join {fs xs cs : List AV} {us vs ws : Array Value} (hs : us.size = fs.length) (hl : vs.size = xs.length) (_hs' : ws.size = cs.length) (hu : ∀ i, i < fs.length → Rd w F β (fs.getD i .junk) (us.getD i undef))
    (hv : ∀ i, i < xs.length → Rd w F β (xs.getD i .junk) (vs.getD i undef)) (hw : ∀ i, i < cs.length → Rd w F β (cs.getD i .junk) (ws.getD i undef)) :
    ∀ i, i < (fs ++ (xs ++ cs)).length → Rd w F β ((fs ++ (xs ++ cs)).getD i .junk) ((us ++ vs ++ ws).getD i undef) := by
  intro i hi
  simp only [List.length_append] at hi
  have e1 : (fs ++ (xs ++ cs)).getD i .junk = if i < fs.length then fs.getD i .junk else if i < fs.length + xs.length then xs.getD (i - fs.length) .junk else cs.getD (i - fs.length - xs.length) .junk := by
    simp only [List.getD, List.getElem?_append]
    by_cases h1 : i < fs.length
    · simp [h1]
    · by_cases h2 : i < fs.length + xs.length
      · simp [h1, h2, show i - fs.length < xs.length by omega]
      · simp [h1, h2, show ¬ i - fs.length < xs.length by omega]
  have e2 : (us ++ vs ++ ws).getD i undef = if i < fs.length then us.getD i undef else if i < fs.length + xs.length then vs.getD (i - fs.length) undef else ws.getD (i - fs.length - xs.length) undef := by
    simp only [Array.getD_eq_getD_getElem?, Array.getElem?_append, Array.size_append, hs, hl]
    by_cases h1 : i < fs.length
    · simp [h1, show i < fs.length + xs.length by omega]
    · by_cases h2 : i < fs.length + xs.length
      · simp [h1, h2]
      · simp [h1, h2, Nat.sub_sub]
  rw [e1, e2]
  by_cases h1 : i < fs.length
  · rw [if_pos h1, if_pos h1]; exact hu i h1
  · rw [if_neg h1, if_neg h1]
    by_cases h2 : i < fs.length + xs.length
    · rw [if_pos h2, if_pos h2]; exact hv _ (by omega)
    · rw [if_neg h2, if_neg h2]; exact hw _ (by omega)

theorem eCall_sound {f : AV} {vf : Value} {xs : List AV} {vs : Array Value} (hI : Inv w F β st.H) (hf : Rd w F β f vf) (hl : vs.size = xs.length)
    (hv : ∀ i, i < xs.length → Rd w F β (xs.getD i .junk) (vs.getD i undef)) (h : eCall P f xs st k) :
    EOut P (do let d ← Deferred.ofValue vf vs; invoke d.target d.args) w F β st k := by
  unfold eCall at h
  split at h
  · rename_i g fs cs
    obtain ⟨⟨fn, c, hfn, hnm, hbody⟩, hp⟩ := h
    obtain ⟨us, ws, rfl, hs, hs', hu, hw⟩ := hf.c_inv
    have hnm' : ¬ fn.name = "runtime.NumGoroutine" := by simpa using hnm
    refine .inr (.inr ⟨g, us ++ vs ++ ws, by simp [Deferred.ofValue, invoke, callFunc, hfn, hnm', hbody], ?_⟩)
    refine (hp w F β (us ++ vs ++ ws) hI ?_ (args_join hs hl hs' hu hv hw)).mono ?_
    · simp [hs, hl, hs']
    · rintro e w' ⟨v, rfl, r, st', F', β', hk, hr, he⟩
      exact ⟨v, rfl, r, st', F', β', hk, hr, he⟩
  · exact h.elim

theorem eCall_run {f : Operand} {args : Array Operand} {argTypes : Array TypeId} {ρ : Operand → AV} {a : Act} {type : TypeId} (hI : Inv w F β st.H) (hf : Rd w F β (ρ f) (a.eval f))
    (hargs : ∀ i, i < (args.toList.map ρ).length → Rd w F β ((args.toList.map ρ).getD i .junk) ((args.map a.eval).getD i undef)) (h : eCall P (ρ f) (args.toList.map ρ) st k) :
    EOut P (do let d ← resolve a.eval { callee := .value f, args := args, argTypes := argTypes } type; invoke d.target d.args) w F β st k := by
  have e : (do let d ← resolve a.eval { callee := .value f, args := args, argTypes := argTypes } type; invoke d.target d.args : Sem Next) = (do let d ← Deferred.ofValue (a.eval f) (args.map a.eval); invoke d.target d.args) := rfl
  rw [e]
  exact eCall_sound hI hf (by simp) hargs h

theorem eAppend_run {args : Array Operand} {argTypes : Array TypeId} {a : Act} {type : TypeId} {d : Nat} {f : Nat → AV} (hd : d < 1000) (hT : TOk P T) (hI : Inv w F β st.H) (hρ : ∀ x, Rd w F β (ev f x) (a.eval x))
    (h : match argTypes.toList, args.toList.map (ev f) with
      | [t, t'], [s, x] => bif Nat.beq t t' then eAppend T t t' s x d st k else match x with
        | .v (.string _) => eAppend T t t' s x d st k
        | _ => eAppendZ T t t' s x d st k
      | _, _ => False) :
    EOut P (do let d ← resolve a.eval { callee := .builtin .append, args := args, argTypes := argTypes } type; invoke d.target d.args) w F β st k := by
  split at h
  · rename_i t t' s x ht hx
    obtain ⟨l, rfl⟩ : ∃ l : List Operand, args = l.toArray := ⟨args.toList, by simp⟩
    obtain ⟨lt, rfl⟩ : ∃ l : List TypeId, argTypes = l.toArray := ⟨argTypes.toList, by simp⟩
    simp only at ht hx
    subst ht
    match l, hx with
    | [o1, o2], hx =>
      simp only [List.map_cons, List.map_nil, List.cons.injEq, and_true] at hx
      obtain ⟨rfl, rfl⟩ := hx
      cases hb : Nat.beq t t' with
      | true =>
        rw [hb] at h
        have := eAppend_sound hd hT hI (hρ o1) (hρ o2) h type
        unfold EOut at this ⊢
        simpa [resolve, invoke, builtin] using this
      | false =>
        rw [hb] at h
        simp only [cond_false] at h
        split at h
        · have := eAppend_sound hd hT hI (hρ o1) (hρ o2) h type
          unfold EOut at this ⊢
          simpa [resolve, invoke, builtin] using this
        · have := eAppendZ_sound hd hT hI (hρ o1) (hρ o2) h type
          unfold EOut at this ⊢
          simpa [resolve, invoke, builtin] using this
  · exact h.elim

theorem eConv_sound {s t id : Nat} {vx : Value} (hT : TOk P T) (hI : Inv w F β st.H) (hx : Rd w F β (.o id) vx) (h : eConv T s t id st k) :
    EOut P (do pure (.value (← convert s t vx))) w F β st k := by
  unfold eConv at h
  split at h
  · rename_i i hi
    split at h
    · rename_i e he
      split at h
      · rename_i j hj
        split at h
        · rename_i h8
          have hst := (cond_prop h).1
          replace h := (cond_prop h).2
          obtain rfl := Nat.eq_of_beq_eq_true hst
          split at h
          · rename_i E K rows hc
            obtain ⟨hne, hk⟩ := h
            have hu := (hT _ _ hi).slice he
            have hu8 := (hT _ _ hj).int h8
            have hm := findC_mem hc
            obtain ⟨a, n, c, hβ, rfl⟩ := hx.o_inv
            rcases hI.holds _ _ hm with ⟨h0, _⟩ | ⟨g, cap, cur, hv, hcap, hg, hn, hmx, hs, hK, hr⟩
            · exact absurd h0 hne
            rw [hβ] at hv
            cases hv
            have h0 : Nat.beq c 0 = false := by cases c <;> first | rfl | omega
            have hblk : blkOf (β id) = some g := by rw [hβ]; simp [blkOf, h0]
            have hown : Owned β st.H g := ⟨id, _, hm, hblk⟩
            let w' := w.freeze ⟨g, cur.size, none⟩ 1
            have hmk : (markStringish ⟨g, 0, none⟩).run P w = .ok () w' := by
              have : w.shape? g = some (E, cur.size) := by simp [World.shape?, hg]
              simp [markStringish, this, w']
            have hrun : (convert s s (.slice (some ⟨g, 0, none⟩) rows.length c)).run P w = .ok (.slice (some ⟨g, 0, none⟩) rows.length c) w' := by
              simp [convert, run_underlying hu, run_underlying hu8, hmk]
            have hg' : w'.heap[g]? = some (.cells cur E (cur.size, cur.size + 1)) := heap_freeze_same hg
            have hoth : ∀ b, b ≠ g → w'.heap[b]? = w.heap[b]? := fun b hb => heap_freeze_other (fun e => hb e.symm)
            have hF : ∀ b, F b → w'.heap[b]? = w.heap[b]? := fun b hb => hoth b fun e => hI.apart g hown (e ▸ hb)
            have hsz : w'.heap.size = w.heap.size := by simp [w', World.freeze]
            have hcellw : ∀ o, w'.cell? ⟨g, o, none⟩ = w.cell? ⟨g, o, none⟩ := fun o => by
              rw [cell_of_row w' g o cur E _ hg', cell_of_row w g o cur E _ hg]
            let F2 : Nat → Prop := fun b => F b ∨ blkOf (β id) = some b
            have hread : RdI w' F2 (.s rows) (.slice (some ⟨g, 0, none⟩) rows.length c) := by
              refine .s (off := 0) (k := K) (u := fun i j => cur.getD (i * K + j) undef) (.inr hblk) hn hmx hK (fun i j hi hj => ?_) (fun i j hi hj => (hr i j hi hj).1) fun i j hi hj => (hr i j hi hj).2.frame hF fun _ h => .inl h
              have : i * K + j < cur.size := by
                rw [hs]
                calc i * K + j < i * K + K := by omega
                  _ = (i + 1) * K := by rw [Nat.add_mul]; omega
                  _ ≤ c * K := Nat.mul_le_mul_right _ (by omega)
              rw [Nat.zero_add, cell_of_row w' g _ cur E _ hg']
              simp [this]
            have hz : ∀ u, Rd w' F2 β (.o id) u → Rd w' F2 β (.s rows) u := fun u hu => by
              obtain ⟨a', n', c', h1, rfl⟩ := hu.o_inv
              rw [hβ] at h1
              cases h1
              exact .i hread
            have up : ∀ {x u}, Rd w F β x u → Rd w' F2 β x u := fun h => h.frame hF fun _ h => .inl h
            have hI' : Inv w' F2 β (frH id rows st.H) := by
              refine ⟨fun b hb => by rw [hsz]; exact hb.elim (hI.fsize b) fun hb => hI.owned_lt ⟨id, _, hm, hb⟩, fun i c2 h => ?_, frH_keys hI.keys, fun b ⟨i, c2, h, hb⟩ hF2 => ?_, fun i c2 i' c2' b h h' hb hb' => ?_⟩
              · obtain ⟨hi2, c3, h3, rfl⟩ := frH_mem h
                have hh := hI.holds i c3 h3
                have hne2 : ∀ b, blkOf (β i) = some b → w'.heap[b]? = w.heap[b]? := fun b hb => hoth b fun e => hi2 (hI.disj i c3 id _ b h3 hm hb (by rw [hblk, e]))
                have hh' := holds_frame (F' := F2) hF (fun _ h => .inl h) hne2 hh
                cases c3 with
                | own E' K' r => exact hh'
                | mp ag r => exact hh'
                | box cells =>
                  obtain ⟨b, cs, e, hb, hhb, hsb, h1b, hrb⟩ := hh'
                  refine ⟨b, cs, e, hb, hhb, by simpa using hsb, fun j hj => h1b j (by simpa using hj), fun j hj => ?_⟩
                  have hj : j < cells.length := by simpa using hj
                  have : (cells.map (sb (.s rows) 1 id)).getD j .junk = sb (.s rows) 1 id (cells.getD j .junk) := by simp [List.getD, hj]
                  rw [this]
                  exact sb_rd hz (fun _ _ => rfl) 1 (hrb j hj)
              · obtain ⟨hi2, c3, h3, _⟩ := frH_mem h
                rcases hF2 with hF2 | hF2
                · exact hI.apart b ⟨i, c3, h3, hb⟩ hF2
                · exact hi2 (hI.disj i c3 id _ b h3 hm hb hF2)
              · obtain ⟨_, c3, h3, _⟩ := frH_mem h
                obtain ⟨_, c4, h4, _⟩ := frH_mem h'
                exact hI.disj i c3 i' c4 b h3 h4 hb hb'
            have hownF : ∀ b, Owned β (frH id rows st.H) b → Owned β st.H b := fun b ⟨i, c2, h, hb⟩ => by
              obtain ⟨_, c3, h3, _⟩ := frH_mem h
              exact ⟨i, c3, h3, hb⟩
            refine EOut.value hrun ⟨_, _, F2, β, hk, .i hread, ⟨rfl, ⟨rfl, fun _ => (by first | exact Nat.le_refl _ | exact Nat.le_succ _)⟩, rfl, Nat.le_of_eq hsz.symm, fun b _ hno => hoth b fun e => hno (e ▸ hown), fun _ h => .inl h, fun b hb => ?_, fun b hb => .inr (hownF b hb), fun t u hu => sb_rd hz (fun _ _ => rfl) 2 (up hu), hI', fun _ _ => rfl⟩⟩
            exact hb.imp (fun h => h) fun h => .inr ⟨id, _, hm, h⟩
          · exact h.elim
        · exact h.elim
      · exact h.elim
    · exact h.elim
  · exact h.elim

theorem step_sound {o : Oper} {a : Act} (hT : TOk P T) (hI : Inv w F β st.H) (hf : ∀ t, Rd w F β (st.f t) (a.tmps.getD t undef)) (h : step P T o st k) : EOut P (execOp a.eval o) w F β st k := by
  have hd0 := (cond_prop h).1
  replace h := (cond_prop h).2
  have hd : o.dst.getD 0 < 1000 := by simpa using hd0
  clear hd0
  have hρ : ∀ x, Rd w F β (ev st.f x) (a.eval x) := ev_rd hf
  have quiet : stepS P T o (ev st.f) st.H (fun r => k r st) → EOut P (execOp a.eval o) w F β st k := fun h => quiet_out hI (stepS_sound hT hI (fun x _ => hρ x) h)
  obtain ⟨dst, op, type, pos, after, guard⟩ := o
  cases op
  case alloc t => simp only [execOp]; exact eAlloc_sound hd hT hI h
  case box t x => simp only [execOp]; exact eBox_sound hd hI (hρ x) h
  case makeMap t r =>
    cases r with
    | none => simp only [execOp]; exact eMakeMap_sound hd hT hI h
    | some r => exact quiet h
  case mapUpdate t m i y => simp only [execOp]; exact eMapUpdate_sound hT hI (hρ m) (hρ i) (hρ y) h
  case store t x y => simp only [execOp]; exact eStore_sound hT hI (hρ x) (hρ y) h
  case buildSlice t n parts =>
    rcases h with h | h
    · exact quiet h
    · simp only [execOp]
      exact eBuildS_sound hd hT hI (parts_len (ev st.f) a.eval parts) (parts_rd fun x _ => hρ x) h
  case slice t x lo hi mx =>
    cases mx with
    | none =>
      cases lo with
      | some l => exact quiet h
      | none =>
        simp only [step0] at h
        split at h
        · simp only [execOp]
          refine eSliceH_sound (vhi := hi.map a.eval) hT hI (hρ x) ?_ h
          cases hi with
          | none => exact True.intro
          | some l => exact hρ l
        · exact quiet h
    | some m =>
      have h : eSlice0 T t (ev st.f x) (lo.map (ev st.f)) (hi.map (ev st.f)) (some (ev st.f m)) (dst.getD 0) st k := by cases lo <;> exact h
      simp only [execOp]
      refine eSlice0_sound (vlo := lo.map a.eval) (vhi := hi.map a.eval) (vmx := some (a.eval m)) hd hT hI (hρ x) ?_ ?_ ?_ h
      · cases lo with
        | none => exact True.intro
        | some l => exact hρ l
      · cases hi with
        | none => exact True.intro
        | some l => exact hρ l
      · exact hρ m
  case makeSlice t l c =>
    rcases h with h | h
    · exact quiet h
    · simp only [execOp]; exact eMake_sound hd hT hI (hρ l) (hρ c) h
  case convert s t x =>
    simp only [step0] at h
    split at h
    · rename_i id hid
      simp only [execOp]
      have hx := hρ x
      rw [hid] at hx
      exact eConv_sound hT hI hx h
    · exact quiet h
  case call c =>
    obtain ⟨callee, args, argTypes⟩ := c
    have hargs : ∀ i, i < (args.toList.map (ev st.f)).length → Rd w F β ((args.toList.map (ev st.f)).getD i .junk) ((args.map a.eval).getD i undef) := fun i hi => by
      simp at hi
      simpa [List.getD, hi] using hρ args[i]
    cases callee with
    | builtin b =>
      cases b
      case append => simp only [execOp]; exact eAppend_run hd hT hI hρ h
      all_goals exact quiet h
    | value f => simp only [execOp]; exact eCall_run hI (hρ f) hargs h
    | invoke r m => exact quiet h
  all_goals exact quiet h

end
end Go.Cat
