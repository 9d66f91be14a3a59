/- The machine agrees with 'stepS', the rest of the operations, and all of them together. No condition. -/
import Derived.Test.YtkbkfcehehofnaaCatD
namespace Go.Cat
set_option linter.all false
open Go.RowKit
variable [M : Mono]

section
variable {P : Program} {T : TT} {w : World} {F : Nat → Prop} {β : Nat → Value} {H : Hp} {k : AV → Prop}

theorem run_intToInt_convert {src dst : Nat} {i j : TI} (hs : TIOk P src i) (hd : TIOk P dst j) {kd kn : IntKind} (hk : j.kind = .int kd) (n : Int) :
    (convert src dst (.int kn n)).run P w = .ok (.int kd (kd.wrap n)) w := by
  obtain ⟨d, hd', _⟩ := hs.und
  simp [convert, run_underlying hd', run_underlying (hd.int hk), Conv.intToInt]

theorem bytes_rd {l : List UInt8} {b off c : Nat} (hb : F b) (hc : l.length ≤ c) (hm : c ≤ maxLen) (h : ∀ m, m < l.length → w.cell? ⟨b, off + m, none⟩ = some (.int .u8 ((l.getD m 0).toNat : Int))) :
    RdI w F (.s (l.map encB)) (.slice (some ⟨b, off, none⟩) l.length c) := by
  have hl : (l.map encB).length = l.length := by simp
  rw [← hl]
  refine .s (k := 1) (u := fun m _ => .int .u8 ((l.getD m 0).toNat : Int)) hb (by simpa using hc) hm (fun m hm => ?_) (fun m j hm hj => ?_) (fun _ _ _ _ => rfl) fun m j hm hj => ?_
  · simp at hm; simp [List.getD, hm, encB]
  · simp at hm
    have : m * 1 + j = m := by omega
    rw [this]; exact h m hm
  · simp at hm
    have : j = 0 := by omega
    subst this
    simp [List.getD, hm, encB]
    exact .v (.inl rfl)

theorem zip_map_getD {l : List UInt8} {m : Nat} (h : m < l.length) : (l.map encB).getD m [] = encB (l.getD m 0) := by simp [List.getD, h]

theorem bytes_back {l : List UInt8} {u : Value} (h : RdI w F (.s (l.map encB)) u) : (l = [] ∧ ∃ a, u = .slice a 0 0) ∨ ∃ (b off c : Nat), F b ∧ l.length ≤ c ∧ c ≤ maxLen ∧ u = .slice (some ⟨b, off, none⟩) l.length c ∧
    ∀ m, m < l.length → w.cell? ⟨b, off + m, none⟩ = some (.int .u8 ((l.getD m 0).toNat : Int)) := by
  rcases h.s_form with ⟨h1, h2⟩ | ⟨b, off, c, K, v, hb, hc, hm, rfl, hK, hv⟩
  · exact .inl ⟨by simpa using h1, h2⟩
  · right
    simp at hc
    refine ⟨b, off, c, hb, hc, hm, by simp, fun m hm => ?_⟩
    have hm' : m < (l.map encB).length := by simpa using hm
    have h1 := hK m hm'
    rw [zip_map_getD hm] at h1
    have hK1 : K = 1 := by simpa [encB] using h1.symm
    subst hK1
    have := hv m 0 hm' (by omega)
    rw [zip_map_getD hm] at this
    have h2 := this.2.2
    have h3 : v m 0 = .int .u8 ((l.getD m 0).toNat : Int) := by
      have : Rd w F (fun _ => undef) (.v (.int .u8 ((l.getD m 0).toNat : Int))) (v m 0) := .i h2
      exact this.v_inv
    rw [← h3]
    simpa using this.1

theorem heap_freeze_same {w : World} {b n : Nat} {c : Array Value} {e : TypeId} (h : w.heap[b]? = some (.cells c e (0, 0))) : (w.freeze ⟨b, n, none⟩ 1).heap[b]? = some (.cells c e (n, n + 1)) := by
  simp [World.freeze, Array.getElem?_modify, h]
theorem heap_freeze_other {w : World} {b b' n : Nat} (h : b ≠ b') : (w.freeze ⟨b, n, none⟩ 1).heap[b']? = w.heap[b']? := by
  simp [World.freeze, Array.getElem?_modify, h]

theorem run_stringToBytes_out {e : Nat} (s : ByteArray) (hs : s.size ≤ maxLen) :
    Gives P (Conv.stringToBytes e s) w F β (fun r => r = .s (s.data.toList.map encB)) := by
  let cap := (Question.appendCap s.size 0 e).cut (w.tape w.drawn (.appendCap s.size 0 e))
  let cells : Array Value := s.data.map (fun b => Value.int .u8 b.toNat) ++ Array.replicate (cap - s.size) (.int .u8 0)
  have hcap : s.size ≤ cap := Nat.le_add_right _ _
  have hcapm : cap ≤ maxLen := grownCap_le_maxLen w s.size 0 e hs
  have hsz : cells.size = cap := by simp only [cells, Array.size_append, Array.size_map, Array.size_replicate]; have : s.data.size = s.size := rfl; omega
  let w1 : World := { w with drawn := w.drawn + 1 }
  let w2 := w1.alloc (.cells cells e)
  have hmk : (markStringish ⟨w.heap.size, 0, none⟩).run P w2 = .ok () (w2.freeze ⟨w.heap.size, cells.size, none⟩ 1) := by
    have : w2.shape? w.heap.size = some (e, cells.size) := by simp [World.shape?, w2, w1, World.alloc]
    simp [markStringish, this]
  have hrun : (Conv.stringToBytes e s).run P w = .ok (.slice (some ⟨w.heap.size, 0, none⟩) s.size cap) (w2.freeze ⟨w.heap.size, cells.size, none⟩ 1) := by
    have hch : (choose (.appendCap s.size 0 e)).run P w = .ok cap w1 := by simp [Question.forced, cap, w1]
    have hnew : (newRow e cells).run P w1 = .ok ⟨w.heap.size, 0, none⟩ w2 := by simp [newRow, w2, w1]
    unfold Conv.stringToBytes
    rw [Sem.run_bind, hch, Result.andThen_ok]
    have : (Sem.bind (newRow e cells) fun a => Sem.bind (markStringish a) fun _ => Sem.pure (Value.slice (some a) s.size cap)).run P w1 = .ok (.slice (some ⟨w.heap.size, 0, none⟩) s.size cap) (w2.freeze ⟨w.heap.size, cells.size, none⟩ 1) := by
      rw [Sem.run_bind', hnew, Result.andThen_ok, Sem.run_bind', hmk, Result.andThen_ok]; rfl
    exact this
  have hheap : (w2.freeze ⟨w.heap.size, cells.size, none⟩ 1).heap[w.heap.size]? = some (.cells cells e (cells.size, cells.size + 1)) :=
    heap_freeze_same (by simp [w2, w1, World.alloc])
  have hsz2 : (w2.freeze ⟨w.heap.size, cells.size, none⟩ 1).heap.size = w.heap.size + 1 := by simp [World.freeze, w2, w1, World.alloc]
  have hbel : Below w.heap.size w (w2.freeze ⟨w.heap.size, cells.size, none⟩ 1) := by
    refine ⟨by simp [World.freeze, w2, w1, World.alloc], ⟨by simp [World.freeze, w2, w1, World.alloc], by simp [World.freeze, w2, w1, World.alloc]⟩, by simp [World.freeze, w2, w1, World.alloc], by omega, fun b hb => ?_⟩
    have h1 : w.heap.size ≠ b := by omega
    have h2 : b ≠ w.heap.size := by omega
    rw [heap_freeze_other h1]
    exact _root_.Go.heap_alloc_old w1 _ hb
  refine ⟨_, _, _, hrun, hbel, rfl, .i ?_⟩
  have hlen : s.data.toList.length = s.size := rfl
  rw [← hlen]
  refine bytes_rd (off := 0) (.inr ⟨Nat.le_refl _, by omega⟩) (by rw [hlen]; exact hcap) hcapm fun m hm => ?_
  have hm' : m < s.data.size := by simpa using hm
  rw [cell_of_row _ _ _ _ _ _ hheap, Nat.zero_add]
  have hm2 : m < s.size := hm'
  simp [cells, Array.getElem?_append, hm2, List.getD]

theorem sConv_sound {src dst : Nat} {x : AV} {vx : Value} (hT : TOk P T) (hx : Rd w F β x vx) (h : sConv T src dst x k) : Gives P (convert src dst vx) w F β k := by
  unfold sConv at h
  split at h
  · rename_i i j hi hj
    have hsi := hT _ _ hi
    have hdj := hT _ _ hj
    split at h
    · rename_i kd kn n hk
      cases hx.v_inv
      obtain ⟨r, rfl, hk'⟩ := h
      exact Gives.mk (run_intToInt_convert hsi hdj hk n) hk' (.i (.v (.inl rfl)))
    · rename_i s hk
      cases hx.v_inv
      obtain ⟨d, hd', _⟩ := hsi.und
      refine Gives.mk ?_ h (.i (.v (.inl rfl)))
      simp [convert, run_underlying hd', run_underlying (hdj.str hk)]
    · rename_i e s hk
      cases hx.v_inv
      split at h
      · rename_i je hje
        split at h
        · rename_i hk8
          obtain ⟨d, hd', _⟩ := hsi.und
          have hc : (convert src dst (.string s)).run P w = (Conv.stringToBytes e s).run P w := by
            simp [convert, run_underlying hd', run_underlying (hdj.slice hk), run_underlying ((hT _ _ hje).int hk8)]
          obtain ⟨v, w', r, hr, hb, rfl, hv⟩ := run_stringToBytes_out (P := P) (w := w) (F := F) (β := β) (e := e) s h.1
          exact ⟨v, w', _, by rw [hc]; exact hr, hb, h.2, hv⟩
        · exact h.elim
      · exact h.elim
    · rename_i rows hk
      split at h
      · rename_i e he
        split at h
        · rename_i je hje
          split at h
          · rename_i hk8
            obtain ⟨l, rfl, hk'⟩ := h
            have hs := hsi.slice he
            have h8 := (hT _ _ hje).int hk8
            have hd := hdj.str hk
            rcases bytes_back hx.s_inv with ⟨rfl, a, rfl⟩ | ⟨b, off, c, hb, hc, hm, rfl, hcell⟩
            · cases a with
              | none => exact Gives.mk (run_convert_bytes_nil w src e hs h8 0 0 dst hd) hk' (.i (.v (.inl rfl)))
              | some ad => exact Gives.mk (run_convert_bytes_back w src dst e ad 0 [] hs h8 hd fun j hj => absurd hj (by simp)) hk' (.i (.v (.inl rfl)))
            · refine Gives.mk (run_convert_bytes_back w src dst e ⟨b, off, none⟩ c l hs h8 hd fun j hj => ?_) hk' (.i (.v (.inl rfl)))
              rw [Addr.add_lit, hcell j hj]
              simp [List.getD, hj]
          · exact h.elim
        · exact h.elim
      · exact h.elim
    · exact h.elim
  · exact h.elim


theorem part_one {ty : TypeId} {i : TI} (hi : TIOk P ty i) (hg : aggK i.kind = false) (cs : Array Value) (off : Nat) {v : Value} (hv : cs[off]? = some v) : (part ty cs off).run P w = .ok v w := by
  have := hi.run_agg w
  rw [hg] at this
  simp [part, this, hv]

theorem sIndex_sound {t : Nat} {x i : AV} {vx vi : Value} (hT : TOk P T) (hx : Rd w F β x vx) (hi : Rd w F β i vi) (h : sIndex T t x i k) : Gives P (Instr.index t vx vi) w F β k := by
  unfold sIndex at h
  split at h
  · rename_i ti hti
    split at h
    · rename_i s kd n hk
      cases hx.v_inv; cases hi.v_inv
      obtain ⟨m, rfl, b, hb, hk'⟩ := h
      refine Gives.mk (v := .int .u8 b.toNat) ?_ hk' (.i (.v (.inl rfl)))
      have hu := (hT _ _ hti).str hk
      have hb' : s[m]? = some b := by
        have hlt : m < s.data.size := by have := lt_of_getElem? hb; simpa using this
        have h2 : s.data[m]? = some b := by simpa using hb
        have h3 : s.data[m] = b := by rw [Array.getElem?_eq_getElem hlt] at h2; simpa using h2
        have hlt' : m < s.size := hlt
        rw [getElem?_pos s m hlt']
        exact congrArg some h3
      simp [Instr.index, asIntOf, run_underlying hu, hb']
    · rename_i len e cells kd n hk
      cases hi.v_inv
      have hu := (hT _ _ hti).arr hk
      split at h
      · rename_i j hj
        cases hg : aggK j.kind with
        | true => rw [hg] at h; exact h.elim
        | false =>
          rw [hg] at h
          obtain ⟨h1, h⟩ := cond_prop h
          have h1 : j.cells = 1 := Nat.eq_of_beq_eq_true h1
          obtain ⟨m, rfl, hm, c, hc, hk'⟩ := h
          obtain ⟨us, rfl, hs, hone, hu'⟩ := hx.a_inv
          have hlt := lt_of_getElem? hc
          have hr := hu' m hlt
          rw [getD_of_getElem? hc] at hr
          refine Gives.mk (v := us.getD m undef) ?_ hk' hr
          have hsz := (hT _ _ hj).run_size w
          have hus : us[m]? = some (us.getD m undef) := by
            have : m < us.size := by omega
            simp [this]
          have hp := part_one (w := w) (hT _ _ hj) hg us m hus
          simp [Instr.index, asIntOf, run_underlying hu, hm, hsz, h1, hp]
      · exact h.elim
    · exact h.elim
  · exact h.elim

/-- A bound's value. -/
def BoundV (x : Option AV) (vx : Option Value) (w : World) (F : Nat → Prop) (β : Nat → Value) : Prop :=
  match x, vx with
  | none, none => True
  | some a, some v => Rd w F β a v
  | _, _ => False

theorem boundI_spec {x : Option AV} {vx : Option Value} {d : Nat} {k : Nat → Prop} (hx : BoundV x vx w F β) (h : boundI x d k) : ∃ m, k m ∧ ((vx = none ∧ m = d) ∨ ∃ kd, vx = some (.int kd (m : Int))) := by
  unfold boundI at h
  split at h
  · cases vx with
    | none => exact ⟨d, h, .inl ⟨rfl, rfl⟩⟩
    | some v => exact hx.elim
  · cases vx with
    | none => exact hx.elim
    | some v =>
      have : Rd w F β _ v := hx
      cases this.v_inv
      obtain ⟨m, rfl, hk⟩ := h
      exact ⟨m, hk, .inr ⟨_, rfl⟩⟩
  · exact h.elim

theorem run_bounds {lo hi : Option Value} {len cap l h : Nat} {is : Bool} (hl : (lo = none ∧ l = 0) ∨ ∃ kd, lo = some (.int kd (l : Int))) (hh : (hi = none ∧ h = len) ∨ ∃ kd, hi = some (.int kd (h : Int)))
    (h1 : l ≤ h) (h2 : h ≤ len) (h3 : len ≤ cap) : (Instr.sliceBounds is len cap lo hi none).run P w = .ok (l, h, cap) w := by
  rcases hl with ⟨rfl, rfl⟩ | ⟨kl, rfl⟩ <;> rcases hh with ⟨rfl, rfl⟩ | ⟨kh, rfl⟩
  · simp [Instr.sliceBounds]
  · have : (h : Int) ≤ (cap : Int) := by omega
    simp [Instr.sliceBounds, run_sliceBound w kh h cap _ (by omega) (by omega)]
  · simp [Instr.sliceBounds, run_sliceBound w kl l h _ (by omega) (by omega)]
  · simp [Instr.sliceBounds, run_sliceBound w kl l h _ (by omega) (by omega), run_sliceBound w kh h cap _ (by omega) (by omega)]

theorem sSlice_sound {t : Nat} {x : AV} {vx : Value} {lo hi : Option AV} {vlo vhi : Option Value} (hT : TOk P T) (hx : Rd w F β x vx) (hlo : BoundV lo vlo w F β) (hhi : BoundV hi vhi w F β)
    (hI : Inv w F β H) (h : sSlice T t x lo hi none H k) : Gives P (Instr.sliceAt t vx vlo vhi none) w F β k := by
  unfold sSlice at h
  split at h
  · rename_i ti mx hti _
    split at h
    · rename_i e rows hk
      have hu := (hT _ _ hti).slice hk
      split at h
      · rename_i j hj
        have hsz := (hT _ _ hj).run_size w
        obtain ⟨l, h, hl⟩ := boundI_spec hlo h
        obtain ⟨m, ⟨hlm, hm, hlen, r, rfl, hk'⟩, hh⟩ := boundI_spec hhi h
        have hat : ∀ v, (Instr.sliceAt t v vlo vhi none).run P w = (Instr.slice t v vlo vhi none).run P w := by
          intro v; simp [Instr.sliceAt, run_underlying hu]
        rcases hx.s_inv.s_form with ⟨rfl, a, rfl⟩ | ⟨b, off, c, K, v, hb, hc, hml, rfl, hK, hv⟩
        · simp at hm
          have hl0 : l = 0 := by omega
          subst hm; subst hl0
          refine Gives.mk (v := .slice a 0 0) ?_ hk' (.i (by simpa using RdI.s0))
          rw [hat]
          have hh' : (vhi = none ∧ (0 : Nat) = 0) ∨ ∃ kd, vhi = some (Value.int kd ((0 : Nat) : Int)) := hh
          simp [Instr.slice, run_underlying hu, run_bounds (P := P) (w := w) (is := true) hl hh' (Nat.le_refl _) (Nat.le_refl _) (Nat.le_refl 0), hsz]
        · have hlen' : ((rows.take m).drop l).length = m - l := by simp; omega
          refine Gives.mk (v := .slice (some (if c = l then ⟨b, off, none⟩ else ⟨b, off + l * j.cells, none⟩)) (m - l) (c - l)) ?_ hk' (.i ?_)
          · rw [hat]
            have hbd := run_bounds (P := P) (w := w) (is := true) hl hh hlm hm hc
            have hrn : (Instr.slice t (.slice (some ⟨b, off, none⟩) rows.length c) vlo vhi none).run P w = .ok (.slice (if c = l then some ⟨b, off, none⟩ else some ⟨b, off + l * j.cells, none⟩) (m - l) (c - l)) w := by
              simp [Instr.slice, run_underlying hu, hbd, hsz, Addr.add_lit]
            rw [hrn]
            split <;> rfl
          · by_cases hcl : c = l
            · rw [if_pos hcl]
              have : m - l = 0 := by omega
              have hnil : (rows.take m).drop l = [] := by
                apply List.eq_nil_of_length_eq_zero; omega
              rw [hnil]
              have h0 : RdI w F (.s []) (.slice (some ⟨b, off, none⟩) ([] : List (List AV)).length (c - l)) :=
                .s (k := 0) (u := fun _ _ => undef) hb (by simp) (by omega) (fun _ h => by simp at h) (fun _ _ h => by simp at h) (fun _ _ h => by simp at h) (fun _ _ h => by simp at h)
              rw [this]; exact h0
            · rw [if_neg hcl, ← hlen']
              refine .s (k := j.cells) (u := fun q z => v (l + q) z) hb (by omega) (by omega) (fun q hq => ?_) (fun q z hq hz => ?_) (fun q z hq hz => ?_) fun q z hq hz => ?_
              · rw [hlen'] at hq
                have := hlen (l + q) (by omega)
                simpa [List.getD, List.getElem?_drop, List.getElem?_take, show l + q < m by omega] using this
              all_goals
                rw [hlen'] at hq
                have hKj : K = j.cells := by rw [← hK (l + q) (by omega)]; exact hlen (l + q) (by omega)
                have hvq := hv (l + q) z (by omega) (by omega)
              · rw [← hvq.1, hKj, Nat.add_mul]; congr 2; omega
              · exact hvq.2.1
              · have h3 := hvq.2.2
                simpa [List.getD, List.getElem?_drop, List.getElem?_take, show l + q < m by omega] using h3
      · exact h.elim
    · rename_i e id Kw d hk
      have hu := (hT _ _ hti).slice hk
      split at h
      · rename_i j hj
        have hsz := (hT _ _ hj).run_size w
        split at h
        · rename_i E K rows hc
          obtain ⟨hK, h⟩ := cond_prop h
          simp only [Bool.and_eq_true] at hK
          have hK1 : K = j.cells := Nat.eq_of_beq_eq_true hK.1
          have hK2 : Kw = K := Nat.eq_of_beq_eq_true hK.2
          subst hK2
          obtain ⟨l, ⟨hl1, hk'⟩, hl⟩ := boundI_spec hlo h
          obtain ⟨a, a', n, c, hβ, hd, ha, rfl⟩ := hx.w_inv
          have hnc : n = rows.length ∧ n ≤ c := by
            rcases own_form (hI.holds _ _ (findC_mem hc)) with ⟨rfl, a2, hv⟩ | ⟨g, cap, hv, _, hcap⟩
            · rw [hβ] at hv; cases hv; exact ⟨rfl, Nat.le_refl _⟩
            · rw [hβ] at hv; cases hv; exact ⟨rfl, hcap⟩
          have hvhi : vhi = none := by
            cases vhi with
            | none => rfl
            | some v => exact hhi.elim
          subst hvhi
          have hb := run_bounds (P := P) (w := w) (is := true) (hi := none) (len := n - d) (cap := c - d) (l := l) (h := n - d) hl (.inl ⟨rfl, rfl⟩) (by omega) (Nat.le_refl _) (by omega)
          refine Gives.mk (v := .slice (if c - d = l then a' else a'.map (·.add (l * j.cells))) (n - d - l) (c - d - l)) ?_ hk' ?_
          · simp [Instr.sliceAt, Instr.slice, run_underlying hu, hb, hsz]
          · have e1 : n - d - l = n - (d + l) := by omega
            have e2 : c - d - l = c - (d + l) := by omega
            rw [e1, e2]
            refine .w hβ (by omega) fun hlt => ?_
            rw [if_neg (by omega), ha (by omega), ← hK1, Option.map_map]
            congr 1
            funext ad
            show (ad.add (d * Kw)).add (l * Kw) = _
            rw [Addr.add_add, ← Nat.add_mul]
        · exact h.elim
      · exact h.elim
    · rename_i e hk
      cases hx.v_inv
      have hu := (hT _ _ hti).slice hk
      split at h
      · rename_i j hj
        have hsz := (hT _ _ hj).run_size w
        obtain ⟨l, h, hl⟩ := boundI_spec hlo h
        obtain ⟨m, ⟨hlm, hm, hk'⟩, hh⟩ := boundI_spec hhi h
        have hm0 : m = 0 := by omega
        have hl0 : l = 0 := by omega
        subst hm0; subst hl0
        have hh' : (vhi = none ∧ (0 : Nat) = 0) ∨ ∃ kd, vhi = some (Value.int kd ((0 : Nat) : Int)) := hh
        refine Gives.mk (v := .slice none 0 0) ?_ hk' (.i (.v (.inl rfl)))
        simp [Instr.sliceAt, Instr.slice, run_underlying hu, run_bounds (P := P) (w := w) (is := true) hl hh' (Nat.le_refl _) (Nat.le_refl _) (Nat.le_refl 0), hsz]
      · exact h.elim
    · rename_i s hk
      cases hx.v_inv
      have hu := (hT _ _ hti).str hk
      obtain ⟨l, h, hl⟩ := boundI_spec hlo h
      obtain ⟨m, ⟨hlm, hm, r, rfl, hk'⟩, hh⟩ := boundI_spec hhi h
      refine Gives.mk (v := .string (s.extract l m)) ?_ hk' (.i (.v (.inl rfl)))
      simp [Instr.sliceAt, Instr.slice, run_underlying hu, run_bounds (P := P) (w := w) (is := false) hl hh hlm hm (Nat.le_refl _)]
    · exact h.elim
  · exact h.elim

theorem sNil_sound {x : AV} {vx : Value} (hx : Rd w F β x vx) (h : sNil x k) :
    (∃ r, k r ∧ Rd w F β r vx) ∧ ((∃ a, vx = .pointer (some a)) ∨ ∃ g fs cs, vx = .func (.func g) fs cs) := by
  unfold sNil at h
  split at h
  · obtain ⟨blk, hb, rfl⟩ := hx.b_inv
    exact ⟨⟨_, h, hx⟩, .inl ⟨_, rfl⟩⟩
  · have hp := hx.p_inv
    cases hp
    exact ⟨⟨_, h, hx⟩, .inl ⟨_, rfl⟩⟩
  · obtain ⟨g, n, c, hb, rfl⟩ := hx.e_inv
    exact ⟨⟨_, h, hx⟩, .inl ⟨_, rfl⟩⟩
  · obtain ⟨us, vs, rfl, _⟩ := hx.c_inv
    exact ⟨⟨_, h, hx⟩, .inr ⟨_, _, _, rfl⟩⟩
  · exact h.elim

theorem sLen_sound {t ty : Nat} {x : AV} {vx : Value} (hT : TOk P T) (hI : Inv w F β H) (hx : Rd w F β x vx) (h : sLen T t x H k) : Gives P (Builtin.len_ #[t] ty #[vx]) w F β k := by
  unfold sLen at h
  split at h
  · rename_i i hi
    split at h
    · rename_i e rows hk
      have hu := (hT _ _ hi).slice hk
      obtain ⟨n, rfl, h⟩ := h
      rcases hx.s_inv.s_form with ⟨rfl, a, rfl⟩ | ⟨b, off, c, K, v, hb, hc, hml, rfl, hK, hv⟩
      · exact Gives.mk (by simp [Builtin.len_, run_underlying hu, goInt]) (h (by simp)) (.i (.v (.inl rfl)))
      · exact Gives.mk (by simp [Builtin.len_, run_underlying hu, goInt]) (h (by omega)) (.i (.v (.inl rfl)))
    · rename_i e hk
      have hu := (hT _ _ hi).slice hk
      cases hx.v_inv
      exact Gives.mk (by simp [Builtin.len_, run_underlying hu, goInt]) h (.i (.v (.inl rfl)))
    · rename_i e id hk
      have hu := (hT _ _ hi).slice hk
      split at h
      · rename_i E K rows hc
        obtain ⟨n, rfl, h⟩ := h
        obtain ⟨a, n, c, hβ, rfl⟩ := hx.o_inv
        have hn : n = rows.length ∧ rows.length ≤ maxLen := by
          rcases own_form (hI.holds _ _ (findC_mem hc)) with ⟨rfl, a', hv⟩ | ⟨g, cap, hv, hm, hn⟩
          · rw [hβ] at hv; cases hv; exact ⟨rfl, by simp⟩
          · rw [hβ] at hv; cases hv; exact ⟨rfl, by omega⟩
        obtain ⟨rfl, hm⟩ := hn
        exact Gives.mk (by simp [Builtin.len_, run_underlying hu, goInt]) (h hm) (.i (.v (.inl rfl)))
      · exact h.elim
    · rename_i e id Kw d hk
      have hu := (hT _ _ hi).slice hk
      split at h
      · rename_i E K rows hc
        obtain ⟨n, rfl, h⟩ := h
        obtain ⟨a, a', n, c, hβ, hd, ha, rfl⟩ := hx.w_inv
        have hn : n = rows.length ∧ rows.length ≤ maxLen := by
          rcases own_form (hI.holds _ _ (findC_mem hc)) with ⟨rfl, a2, hv⟩ | ⟨g, cap, hv, hm, hn⟩
          · rw [hβ] at hv; cases hv; exact ⟨rfl, by simp⟩
          · rw [hβ] at hv; cases hv; exact ⟨rfl, by omega⟩
        obtain ⟨rfl, hm⟩ := hn
        exact Gives.mk (by simp [Builtin.len_, run_underlying hu, goInt]) (h (by omega)) (.i (.v (.inl rfl)))
      · exact h.elim
    · rename_i kt e id hk
      have hu := (hT _ _ hi).map hk
      split at h
      · rename_i ag rows hc
        obtain ⟨n, rfl, h⟩ := h
        obtain ⟨b, hβ, rfl⟩ := hx.m_inv
        obtain ⟨b', es, ck, hβ', hh, _, hs, hm, _⟩ := hI.holds _ _ (findC_mem hc)
        rw [hβ] at hβ'; cases hβ'
        have hg := Go.MapKept.run_getObj_map (P := P) hh
        exact Gives.mk (v := .int .i64 rows.length) (by simp [Builtin.len_, run_underlying hu, goInt, hg, hs]) (h (by omega)) (.i (.v (.inl rfl)))
      · exact h.elim
    · rename_i s hk
      have hu := (hT _ _ hi).str hk
      cases hx.v_inv
      obtain ⟨n, rfl, h⟩ := h
      exact Gives.mk (by simp [Builtin.len_, run_underlying hu, goInt]) h (.i (.v (.inl rfl)))
    · rename_i n e hk
      have hu := (hT _ _ hi).arr hk
      exact Gives.mk (by simp [Builtin.len_, run_underlying hu, goInt]) h (.i (.v (.inl rfl)))
    · exact h.elim
  · exact h.elim

end
end Go.Cat
