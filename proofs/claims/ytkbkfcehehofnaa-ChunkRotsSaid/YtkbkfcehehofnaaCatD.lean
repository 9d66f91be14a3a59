/- The machine agrees with 'stepS': one operation that writes to nothing that was there. No condition. -/
import Derived.Test.YtkbkfcehehofnaaCatC
namespace Go.Cat
set_option linter.all false
open Go.RowKit
variable [M : Mono]

section
variable {P : Program} {T : TT} {w : World} {F : Nat → Prop} {β : Nat → Value} {H : Hp} {k : AV → Prop}

theorem Rd.here {x : AV} {u : Value} (h : Rd w F β x u) : Rd w (FNew F w w) β x u := h.frame (fun _ _ => rfl) fun _ h => .inl h

/-- A run that hands back a value and turns nothing. -/
def Gives (P : Program) (s : Sem Value) (w : World) (F : Nat → Prop) (β : Nat → Value) (k : AV → Prop) : Prop :=
  ∃ v w' r, s.run P w = .ok v w' ∧ Below w.heap.size w w' ∧ k r ∧ Rd w' (FNew F w w') β r v

theorem Gives.mk {s : Sem Value} {v : Value} {r : AV} (hr : s.run P w = .ok v w) (hk : k r) (hv : Rd w F β r v) : Gives P s w F β k :=
  ⟨v, w, r, hr, Below.refl _ _, hk, hv.here⟩

/-- The same, where the world is as it was. -/
def GivesS (P : Program) (s : Sem Value) (w : World) (F : Nat → Prop) (β : Nat → Value) (k : AV → Prop) : Prop :=
  ∃ v r, s.run P w = .ok v w ∧ k r ∧ Rd w F β r v

theorem GivesS.mk {s : Sem Value} {v : Value} {r : AV} (hr : s.run P w = .ok v w) (hk : k r) (hv : Rd w F β r v) : GivesS P s w F β k := ⟨v, r, hr, hk, hv⟩

theorem GivesS.gives {s : Sem Value} (h : GivesS P s w F β k) : Gives P s w F β k := by
  obtain ⟨v, r, hr, hk, hv⟩ := h
  exact Gives.mk hr hk hv

theorem Gives.out {s : Sem Value} (h : Gives P s w F β k) : QOut P (do pure (.value (← s))) w fun v w' => ∃ r, k r ∧ Rd w' (FNew F w w') β r v := by
  obtain ⟨v, w', r, hr, hb, hk, hv⟩ := h
  exact .inl ⟨v, w', by simp [hr], hb, r, hk, hv⟩

theorem sPick_sound {c a b : AV} {vc va vb : Value} (hc : Rd w F β c vc) (ha : Rd w F β a va) (hb : Rd w F β b vb) (h : sPick c a b k) :
    QOut P (do pure (.value (if ← asBool vc then va else vb))) w fun v w' => ∃ r, k r ∧ Rd w' (FNew F w w') β r v := by
  unfold sPick at h
  split at h
  · cases hc.v_inv
    exact .inl ⟨va, w, by simp [asBool], Below.refl _ _, _, h, ha.here⟩
  · cases hc.v_inv
    exact .inl ⟨vb, w, by simp [asBool], Below.refl _ _, _, h, hb.here⟩
  · exact h.elim

theorem sExtract_sound {t : AV} {i : Nat} {vt : Value} (ht : Rd w F β t vt) (h : sExtract t i k) : Gives P (Instr.extract vt i) w F β k := by
  unfold sExtract at h
  split at h
  · rename_i vs
    obtain ⟨hlt, hk⟩ := cond_prop h
    have hlt : i < vs.length := by simpa [Nat.blt_eq] using hlt
    obtain ⟨us, rfl, hs, hu⟩ := ht.t_inv
    refine Gives.mk (v := us.getD i undef) ?_ hk (hu i hlt)
    have hi : i < us.size := by omega
    simp [Instr.extract, hi]
  · exact h.elim

theorem sUn_sound {op : UnOp} {x : AV} {vx : Value} (hx : Rd w F β x vx) (h : sUn op x k) : Gives P (Op.unary op vx) w F β k := by
  unfold sUn at h
  split at h
  · cases hx.v_inv
    exact Gives.mk (by simp [Op.unary]) h (.i (.v (.inl rfl)))
  · cases hx.v_inv
    obtain ⟨r, rfl, hk⟩ := h
    exact Gives.mk (by simp [Op.unary, Op.intArith]) hk (.i (.v (.inl rfl)))
  · exact h.elim

theorem strI_run {op : BinOp} {a b : ByteArray} {k : Value → Prop} (h : strI op a b k) (t : TypeId) :
    ∃ v, (binOp op t (.string a) (.string b)).run P w = .ok v w ∧ v.oneCell' = true ∧ k v := by
  cases op <;> simp only [strI] at h
  case add =>
    obtain ⟨h1, r, rfl, hk⟩ := h
    have : ¬ ((a.size + b.size : Nat) : Int) > IntKind.i64.max := by
      have : IntKind.i64.max = 9223372036854775807 := rfl
      omega
    exact ⟨_, by simp only [binOp, Op.stringOp]; rw [if_neg this]; rfl, rfl, hk⟩
  all_goals first | exact h.elim | (obtain ⟨r, rfl, h⟩ := h; exact ⟨_, by simp [binOp, Op.stringOp], rfl, h⟩)

theorem run_eqGuard_plain {op : BinOp} {t : TypeId} {x y : Operand} {u v : Value} (hu : u.oneCell' = true) (hn : u ≠ .nilIface) : (eqGuard op t x y u v).run P w = .ok () w := by
  have hc : eqGuard op t x y u v = if !(op matches .eql | .neq) then (pure () : Sem Unit) else pure () := by
    unfold eqGuard
    cases u <;> first | (simp [Value.oneCell'] at hu; done) | exact absurd rfl hn | rfl
  rw [hc]; split <;> rfl

theorem run_equalIn_bool (d : Nat) {t : TypeId} (hd : P.underlying t = some .bool) (a b : Bool) : (Op.equalIn (d + 1) t (.bool a) (.bool b)).run P w = .ok (a == b) w := by
  simp [Op.equalIn, run_underlying hd]

theorem run_equalIn_slice_nil (d : Nat) {t e : TypeId} (hd : P.underlying t = some (.slice e)) (a : Option Addr) (n c : Nat) : (Op.equalIn (d + 1) t (.slice a n c) (.slice none 0 0)).run P w = .ok a.isNone w := by
  cases a <;> simp [Op.equalIn, run_underlying hd]

theorem sBin_sound {op : BinOp} {t : Nat} {x y : AV} {vx vy : Value} (hT : TOk P T) (hx : Rd w F β x vx) (hy : Rd w F β y vy) (ox oy : Operand) (h : sBin P T op t x y k) :
    Gives P (do eqGuard op t ox oy vx vy; binOp op t vx vy) w F β k := by
  unfold sBin at h
  split at h
  · cases hx.v_inv; cases hy.v_inv
    obtain ⟨v, hr, h1, hk⟩ := binI_run (P := P) h t w
    exact Gives.mk (v := v) (by simp [run_eqGuard_plain (u := .int _ _) rfl (by simp), hr]) hk (.i (.v (.inl h1)))
  · cases hx.v_inv; cases hy.v_inv
    obtain ⟨v, hr, h1, hk⟩ := strI_run (P := P) (w := w) h t
    exact Gives.mk (v := v) (by simp [run_eqGuard_plain (u := .string _) rfl (by simp), hr]) hk (.i (.v (.inl h1)))
  · cases hx.v_inv; cases hy.v_inv
    rename_i a b
    split at h
    · rename_i i hi
      obtain ⟨d, hd, hkd⟩ := (hT _ _ hi).und
      split at h
      · rename_i hbool
        rw [hbool] at hkd
        have hd' : P.underlying t = some .bool := by cases d <;> simp [TKof] at hkd; exact hd
        have he : (Op.equal t (.bool a) (.bool b)).run P w = .ok (a == b) w := by
          exact run_equalIn_bool 9999 hd' a b
        split at h
        · exact Gives.mk (by simp [run_eqGuard_plain (u := .bool _) rfl (by simp), binOp, he]) h (.i (.v (.inl rfl)))
        · exact Gives.mk (by simp [run_eqGuard_plain (u := .bool _) rfl (by simp), binOp, he]) h (.i (.v (.inl rfl)))
        · exact h.elim
      · exact h.elim
    · exact h.elim
  · rename_i rows
    cases hy.v_inv
    split at h
    · rename_i i hi
      split at h
      · rename_i e he
        have hu := (hT _ _ hi).slice he
        obtain ⟨a, n, c, rfl, ha⟩ : ∃ a n c, vx = .slice a n c ∧ (a = none → rows = []) := by
          have hs := hx.s_inv
          cases hs with
          | s0 => exact ⟨_, _, _, rfl, fun _ => rfl⟩
          | s => exact ⟨_, _, _, rfl, fun h => by cases h⟩
        have he' : (Op.equal t (.slice a n c) (.slice none 0 0)).run P w = .ok a.isNone w := run_equalIn_slice_nil 9999 hu a n c
        have hg := run_eqGuard_plain (P := P) (w := w) (op := op) (t := t) (x := ox) (y := oy) (u := .slice a n c) (v := .slice none 0 0) rfl (by simp)
        split at h
        · exact Gives.mk (by simp [run_eqGuard_plain (u := .slice a n c) rfl (by simp), binOp, he']) (h a.isNone fun hn => ha (by cases a <;> first | rfl | cases hn)) (.i (.v (.inl rfl)))
        · exact Gives.mk (by simp [run_eqGuard_plain (u := .slice a n c) rfl (by simp), binOp, he']) (h (!a.isNone) fun hn => ha (by cases a <;> first | rfl | cases hn)) (.i (.v (.inl rfl)))
        · exact h.elim
      · exact h.elim
    · exact h.elim
  · rename_i xs ys
    obtain ⟨ks, hty, h⟩ := h
    obtain ⟨hfit, h⟩ := cond_prop h
    obtain ⟨us, rfl, hs, _, hu⟩ := hx.a_inv
    obtain ⟨vs, rfl, hs', _, hv⟩ := hy.a_inv
    simp only [eqTy, Bool.and_eq_true, Bool.not_eq_true'] at hty
    obtain ⟨hst, hsto, hgu, hfs⟩ := hty
    have hund : P.underlying t = some (.struct (P.fieldsOf t)) := by
      unfold Program.fieldsOf
      cases hd : P.underlying t with
      | none => rw [hd] at hst; cases hst
      | some d =>
        rw [hd] at hst
        cases d <;> first | rfl | cases hst
    have cell : ∀ {zs : List AV} {ws : Array Value}, ws.size = zs.length → (∀ i, i < zs.length → Rd w F β (zs.getD i .junk) (ws.getD i undef)) → ∀ i z, zs[i]? = some (.v z) → ws[0 + i]? = some z := by
      intro zs ws hsz hrd i z hz
      obtain ⟨hi, hz'⟩ := List.getElem?_eq_some_iff.1 hz
      have := hrd i hi
      rw [List.getD_eq_getElem?_getD, hz, Option.getD_some] at this
      have e := this.v_inv
      rw [Nat.zero_add, Array.getElem?_eq_getElem (by omega)]
      rw [Array.getD_eq_getD_getElem?, Array.getElem?_eq_getElem (by omega), Option.getD_some] at e
      rw [e]
    have heq : (Op.equalIn 10000 t (.agg us) (.agg vs)).run P w = .ok (eqCells xs ys) w := by
      rw [run_equalIn_struct w 9999 t us vs hund hsto]
      exact run_eqFields (P := P) (w := w) (us := us) (vs := vs) (d := 9998) _ ks xs ys 0 hfs hfit (cell hs hu) (cell hs' hv)
    split at h
    · exact Gives.mk (by simp [run_eqGuard_agg w _ t _ _ us vs hgu, run_eql_struct, heq]) h (.i (.v (.inl rfl)))
    · exact Gives.mk (by simp [run_eqGuard_agg w _ t _ _ us vs hgu, run_neq_struct, heq]) h (.i (.v (.inl rfl)))
    · exact h.elim
  · exact h.elim

theorem addOff_sound {x : AV} {off : Nat} {vx : Value} (hx : Rd w F β x vx) (h : addOff x off k) :
    ∃ b o r, vx = .pointer (some ⟨b, o, none⟩) ∧ k r ∧ Rd w F β r (.pointer (some ⟨b, o + off, none⟩)) := by
  unfold addOff at h
  split at h
  · obtain ⟨blk, hb, rfl⟩ := hx.b_inv
    exact ⟨_, _, _, rfl, h, .b hb⟩
  · rename_i cells
    have hp := hx.p_inv
    cases hp with
    | p hb hcell hone hrd =>
      rename_i b o u
      refine ⟨_, _, _, rfl, h, .i ?_⟩
      refine .p (u := fun j => u (off + j)) hb (fun j hj => ?_) (fun j hj => ?_) (fun j hj => ?_)
      · simp at hj
        rw [Nat.add_assoc]; exact hcell _ (by omega)
      · simp at hj; exact hone _ (by omega)
      · simp at hj
        have := hrd (off + j) (by omega)
        simpa [List.getD, List.getElem?_drop] using this
  · obtain ⟨g, n, c, hb, rfl⟩ := hx.e_inv
    refine ⟨_, _, _, rfl, h, ?_⟩
    rw [Nat.add_assoc]
    exact .e hb
  · exact h.elim

theorem sFieldA_sound {t f : Nat} {x : AV} {vx : Value} (hT : TOk P T) (hx : Rd w F β x vx) (h : sFieldA T t x f k) : Gives P (Instr.fieldAt t vx f) w F β k := by
  unfold sFieldA at h
  split at h
  · rename_i i hi
    split at h
    · rename_i fs hfs
      split at h
      · rename_i off ty hf
        split at h
        · rename_i j hj
          cases hz : Nat.beq j.cells 0 with
          | true => rw [hz] at h; exact h.elim
          | false =>
            rw [hz] at h
            obtain ⟨b, o, r, rfl, hk, hr⟩ := addOff_sound hx h
            obtain ⟨fields, hu, hm⟩ := (hT _ _ hi).struct hfs
            have hff : ∃ fd, fields[f]? = some fd ∧ fd.offset = off ∧ fd.type = ty := by
              rw [← hm] at hf
              simp only [List.getElem?_map, Option.map_eq_some_iff] at hf
              obtain ⟨fd, h1, h2⟩ := hf
              cases h2
              exact ⟨fd, by simpa using h1, rfl, rfl⟩
            obtain ⟨fd, h1, rfl, rfl⟩ := hff
            have hsz := (hT _ _ hj).run_size w
            have hne : j.cells ≠ 0 := by
              intro h0; rw [h0] at hz; cases hz
            refine Gives.mk (v := .pointer (some ⟨b, o + fd.offset, none⟩)) ?_ hk hr
            simp [Instr.fieldAt, run_underlying hu, h1, Instr.sureAddr, fieldPlace, hsz, hne, Addr.add_lit]
        · exact h.elim
      · exact h.elim
    · exact h.elim
  · exact h.elim

theorem ldCells_sound {t : Nat} {i : TI} {cells : List AV} {off : Nat} (hi : TIOk P t i) (h : ldCells i cells off k) {b base : Nat} {u : Nat → Value}
    (hcell : ∀ j, j < cells.length → w.cell? ⟨b, base + j, none⟩ = some (u j)) (hone : ∀ j, j < cells.length → (u j).oneCell' = true)
    (hrd : ∀ j, j < cells.length → Rd w F β (cells.getD j .junk) (u j)) : GivesS P (Instr.loadAt t (.pointer (some ⟨b, base + off, none⟩))) w F β k := by
  unfold ldCells at h
  obtain ⟨hle, h⟩ := cond_prop h
  have hle : off + i.cells ≤ cells.length := by simpa using hle
  have hag := hi.run_agg w
  have hsz := hi.run_size w
  cases hg : aggK i.kind with
  | true =>
    rw [hg] at h hag
    have hl := run_loadCells (P := P) w ⟨b, base + off, none⟩ i.cells (fun j => u (off + j)) (fun j hj => by
      rw [Addr.add_lit, Nat.add_assoc]; exact hcell _ (by omega))
    obtain ⟨c, rfl, h⟩ := h
    refine GivesS.mk (v := .agg ((List.range i.cells).map fun j => u (off + j)).toArray) ?_ h ?_
    · simp [Instr.loadAt, Instr.sureAddr, loadVar, hag, hsz, hl]
    · have hlen : ((cells.drop off).take i.cells).length = i.cells := by simp; omega
      refine .a (by simp; omega) (fun j hj => ?_) fun j hj => ?_
      · rw [hlen] at hj
        simpa [Array.getD, hj] using hone (off + j) (by omega)
      · rw [hlen] at hj
        have := hrd (off + j) (by omega)
        simpa [Array.getD, hj, List.getD, List.getElem?_take, List.getElem?_drop] using this
  | false =>
    rw [hg] at h hag
    obtain ⟨h1, h⟩ := cond_prop h
    have h1 : i.cells = 1 := Nat.eq_of_beq_eq_true h1
    obtain ⟨x, hx, h⟩ := h
    have hrd' := hrd off (by omega)
    rw [List.getD_eq_getElem?_getD, hx, Option.getD_some] at hrd'
    refine GivesS.mk (v := u off) ?_ h hrd'
    simp [Instr.loadAt, Instr.sureAddr, loadVar, hag, hcell off (by omega)]

theorem getD_of_getElem? {α : Type} {l : List α} {i : Nat} {x d : α} (h : l[i]? = some x) : l.getD i d = x := by simp [List.getD, h]
theorem lt_of_getElem? {α : Type} {l : List α} {i : Nat} {x : α} (h : l[i]? = some x) : i < l.length := (List.getElem?_eq_some_iff.1 h).1

theorem own_cell {id E K : Nat} {rows : List (List AV)} (h : Chunk.holds w F β id (.own E K rows)) {g n c : Nat} (hβ : β id = .slice (some ⟨g, 0, none⟩) n c) :
    rows.length = n ∧ n ≤ c ∧ c ≤ maxLen ∧ ∃ u : Nat → Nat → Value, ∀ m j, m < rows.length → j < K → w.cell? ⟨g, m * K + j, none⟩ = some (u m j) ∧ (u m j).oneCell' = true ∧ RdI w F ((rows.getD m []).getD j .junk) (u m j) := by
  rcases h with ⟨rfl, a, hv⟩ | ⟨g', cap, cur, hv, _, hg, hn, hm, hs, hk, hr⟩
  · rw [hv] at hβ
    cases hβ
    exact ⟨rfl, Nat.le_refl _, Nat.zero_le _, fun _ _ => undef, fun m j hm => by simp at hm⟩
  · rw [hv] at hβ
    cases hβ
    refine ⟨rfl, hn, hm, fun m j => cur.getD (m * K + j) undef, fun m j hm' hj => ⟨?_, (hr m j hm' hj).1, (hr m j hm' hj).2⟩⟩
    have hlt : m * K + j < rows.length * K := by
      calc m * K + j < m * K + K := by omega
        _ = (m + 1) * K := by rw [Nat.add_mul]; omega
        _ ≤ rows.length * K := Nat.mul_le_mul_right _ hm'
    rw [cell_of_row w g (m * K + j) cur E (0, 0) hg]
    have hc : rows.length * K ≤ cur.size := by rw [hs]; exact Nat.mul_le_mul_right _ hn
    have h2 : m * K + j < cur.size := by omega
    simp [h2]

theorem own_len {id E K : Nat} {rows : List (List AV)} (h : Chunk.holds w F β id (.own E K rows)) : ∀ i, i < rows.length → (rows.getD i []).length = K := by
  rcases h with ⟨rfl, _⟩ | ⟨_, _, _, _, _, _, _, _, _, hk, _⟩
  · intro i hi; simp at hi
  · exact hk

theorem own_form {id E K : Nat} {rows : List (List AV)} (h : Chunk.holds w F β id (.own E K rows)) : (rows = [] ∧ ∃ a, β id = .slice a 0 0) ∨ ∃ g cap, β id = .slice (some ⟨g, 0, none⟩) rows.length cap ∧ cap ≤ maxLen ∧ rows.length ≤ cap := by
  rcases h with h | ⟨g, cap, cur, hv, _, hg, hn, hm, _⟩
  · exact .inl h
  · exact .inr ⟨g, cap, hv, hm, hn⟩

theorem sLoad_same {t : Nat} {x : AV} {vx : Value} (hT : TOk P T) (hI : Inv w F β H) (hx : Rd w F β x vx) (h : sLoad T t x H k) : GivesS P (Instr.loadAt t vx) w F β k := by
  unfold sLoad at h
  split at h
  · rename_i i hi
    split at h
    · rename_i id off
      split at h
      · rename_i cells hc
        obtain ⟨b, c, e, hβ, hh, hs, h1, hr⟩ := hI.holds _ _ (findC_mem hc)
        obtain ⟨blk, hb, rfl⟩ := hx.b_inv
        rw [hβ] at hb
        cases hb
        have := ldCells_sound (hT _ _ hi) h (b := b) (base := 0) (u := fun j => c.getD j undef) (fun j hj => by
          rw [cell_of_row w b (0 + j) c e (0, 0) hh, Nat.zero_add]
          have : j < c.size := by omega
          simp [this]) h1 hr
        simpa using this
      · exact h.elim
    · rename_i cells
      have hp := hx.p_inv
      cases hp with
      | p hb hcell hone hrd => exact ldCells_sound (off := 0) (hT _ _ hi) h hcell hone fun j hj => .i (hrd j hj)
    · rename_i id K m j
      split at h
      · rename_i E' K' rows hc
        obtain ⟨row, hrow, rfl, h⟩ := h
        obtain ⟨g, n, c, hβ, rfl⟩ := hx.e_inv
        have hh := hI.holds _ _ (findC_mem hc)
        obtain ⟨_, _, _, u, hu⟩ := own_cell hh hβ
        have hm := lt_of_getElem? hrow
        have hrl : row.length = K := by
          have := own_len hh m hm
          rwa [getD_of_getElem? hrow] at this
        rw [← getD_of_getElem? (d := []) hrow] at h hrl
        exact ldCells_sound (hT _ _ hi) h (b := g) (base := m * K) (u := u m) (fun j hj => (hu m j hm (by omega)).1) (fun j hj => (hu m j hm (by omega)).2.1)
          fun j hj => .i (hu m j hm (by omega)).2.2
      · exact h.elim
    · exact h.elim
  · exact h.elim

theorem sLoad_sound {t : Nat} {x : AV} {vx : Value} (hT : TOk P T) (hI : Inv w F β H) (hx : Rd w F β x vx) (h : sLoad T t x H k) : Gives P (Instr.loadAt t vx) w F β k :=
  (sLoad_same hT hI hx h).gives

theorem RdI.s_form {rows : List (List AV)} {u : Value} (h : RdI w F (.s rows) u) : (rows = [] ∧ ∃ a, u = .slice a 0 0) ∨ ∃ (b off c K : Nat) (v : Nat → Nat → Value), F b ∧ rows.length ≤ c ∧ c ≤ maxLen ∧ u = .slice (some ⟨b, off, none⟩) rows.length c ∧
    (∀ i, i < rows.length → (rows.getD i []).length = K) ∧ ∀ i j, i < rows.length → j < K → w.cell? ⟨b, off + (i * K + j), none⟩ = some (v i j) ∧ (v i j).oneCell' = true ∧ RdI w F ((rows.getD i []).getD j .junk) (v i j) := by
  cases h with
  | s0 => exact .inl ⟨rfl, _, rfl⟩
  | s hb hc hm hk hcell hone hrd => exact .inr ⟨_, _, _, _, _, hb, hc, hm, rfl, hk, fun i j hi hj => ⟨hcell i j hi hj, hone i j hi hj, hrd i j hi hj⟩⟩

theorem sIndexA_sound {t : Nat} {x i : AV} {vx vi : Value} (hT : TOk P T) (hI : Inv w F β H) (hx : Rd w F β x vx) (hi : Rd w F β i vi) (h : sIndexA T t x i H k) : Gives P (Instr.indexAt t vx vi) w F β k := by
  unfold sIndexA at h
  split at h
  · rename_i ti hti
    split at h
    · rename_i e he
      have hu := (hT _ _ hti).slice he
      split at h
      · rename_i j hj
        have hsz := (hT _ _ hj).run_size w
        split at h
        · rename_i rows kd n
          cases hi.v_inv
          obtain ⟨m, rfl, row, hrow, h⟩ := h
          obtain ⟨hrl, hk⟩ := cond_prop h
          have hrl : row.length = j.cells := Nat.eq_of_beq_eq_true hrl
          have hm := lt_of_getElem? hrow
          rcases hx.s_inv.s_form with ⟨rfl, _⟩ | ⟨b, off, c, K, v, hb, hc, hml, rfl, hK, hv⟩
          · simp at hm
          · have hKr : row.length = K := by have := hK m hm; rwa [getD_of_getElem? hrow] at this
            refine Gives.mk (v := .pointer (some ⟨b, off + m * K, none⟩)) ?_ hk (.i ?_)
            · have : (0 : Int) ≤ (m : Int) ∧ (m : Int) < (rows.length : Int) := by omega
              simp [Instr.indexAt, asIntOf, run_underlying hu, hm, hsz, Addr.add_lit, ← hrl, hKr]
            · refine .p (u := v m) hb (fun q hq => ?_) (fun q hq => (hv m q hm (by omega)).2.1) fun q hq => ?_
              · rw [Nat.add_assoc]; exact (hv m q hm (by omega)).1
              · have := (hv m q hm (by omega)).2.2
                rwa [getD_of_getElem? hrow] at this
        · rename_i id kd n
          cases hi.v_inv
          split at h
          · rename_i E' K rows hc
            obtain ⟨hK, h⟩ := cond_prop h
            have hK : K = j.cells := Nat.eq_of_beq_eq_true hK
            obtain ⟨m, rfl, hm, hk⟩ := h
            obtain ⟨a, n, c, hβ, rfl⟩ := hx.o_inv
            have hh := hI.holds _ _ (findC_mem hc)
            rcases own_form hh with ⟨rfl, _⟩ | ⟨g, cap, hv, _⟩
            · simp at hm
            · rw [hβ] at hv
              cases hv
              refine Gives.mk (v := .pointer (some ⟨g, m * K + 0, none⟩)) ?_ hk (.e hβ)
              simp [Instr.indexAt, asIntOf, run_underlying hu, hm, hsz, Addr.add_lit, ← hK]
          · exact h.elim
        · rename_i id Kw d kd n
          cases hi.v_inv
          split at h
          · rename_i E' K rows hc
            obtain ⟨hK, h⟩ := cond_prop h
            simp only [Bool.and_eq_true] at hK
            have hK1 : K = j.cells := Nat.eq_of_beq_eq_true hK.1
            have hK2 : Kw = K := Nat.eq_of_beq_eq_true hK.2
            subst hK2
            obtain ⟨m, rfl, hm, hk⟩ := h
            obtain ⟨a, a', n, c, hβ, hd, ha, rfl⟩ := hx.w_inv
            have hh := hI.holds _ _ (findC_mem hc)
            rcases own_form hh with ⟨rfl, _⟩ | ⟨g, cap, hv, _, hcap⟩
            · simp at hm
            · rw [hβ] at hv
              cases hv
              have ha := ha (by omega)
              subst ha
              refine Gives.mk (v := .pointer (some ⟨g, (d + m) * Kw + 0, none⟩)) ?_ hk (.e hβ)
              have hm' : m < rows.length - d := by omega
              have e : ((⟨g, 0, none⟩ : Addr).add (d * Kw)).add (m * j.cells) = ⟨g, (d + m) * Kw + 0, none⟩ := by
                rw [← hK1, Addr.add_add, Addr.add_lit, ← Nat.add_mul]; simp
              simp [Instr.indexAt, asIntOf, run_underlying hu, hm', hsz, e]
          · exact h.elim
        · exact h.elim
      · exact h.elim
    · rename_i len e he
      have hu := (hT _ _ hti).arr he
      split at h
      · rename_i j hj
        have hsz := (hT _ _ hj).run_size w
        split at h
        · cases hi.v_inv
          obtain ⟨m, rfl, hm, hk⟩ := h
          obtain ⟨blk, hb, rfl⟩ := hx.b_inv
          refine Gives.mk (v := .pointer (some ⟨blk, _ + m * j.cells, none⟩)) ?_ hk (.b hb)
          simp [Instr.indexAt, Instr.sureAddr, asIntOf, run_underlying hu, hm, hsz, Addr.add_lit]
        · rename_i cells kd n
          cases hi.v_inv
          obtain ⟨m, rfl, hm, hk⟩ := h
          have hp := addOff_sound (k := fun r => r = .p (cells.drop (m * j.cells))) hx rfl
          obtain ⟨b, o, r, rfl, rfl, hr⟩ := hp
          refine Gives.mk (v := .pointer (some ⟨b, o + m * j.cells, none⟩)) ?_ hk hr
          simp [Instr.indexAt, Instr.sureAddr, asIntOf, run_underlying hu, hm, hsz, Addr.add_lit]
        · exact h.elim
      · exact h.elim
    · exact h.elim
  · exact h.elim

end
end Go.Cat
