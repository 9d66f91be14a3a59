/- Bodies, piece by piece, beside a plain program: rules for the statements. No condition. -/
import Derived.Test.YtkbkfcehehofnaaCatT
namespace Go.Cat
set_option linter.all false
open Go.RowKit
variable [M : Mono]

/-- The code, from a state on: what it ends in. -/
structure Ok (P : Program) (n : Nat) (c : Code) (st : ASt) (Q : Exit → ASt → Prop) : Prop where
  h : ∀ C : Ctx, C.n = n → AWp P C c st Q

/-- What one state says, the other says, too. -/
def Wk (s s' : ASt) : Prop := ∀ (C : Ctx) (a : Act) (w : World), Rel C s a w → Rel C s' a w

def nx (P : Program) (n : Nat) (y : Code) (Q : Exit → ASt → Prop) : Exit → ASt → Prop := fun e s => match e with
  | .normal => Ok P n y s Q
  | e => Q e s

def bk (id : Nat) (Q : Exit → ASt → Prop) : Exit → ASt → Prop := fun e s => match e with
  | .exit i => bif Nat.beq i id then Q .normal s else Q (.exit i) s
  | e => Q e s

/-- The way on, through a state that is known ahead. -/
def jn (s1 : ASt) (Q : Exit → ASt → Prop) : Exit → ASt → Prop := fun e s => match e with
  | .normal => Wk s s1
  | e => Q e s

def jnE {σ : Type} (J : σ → ASt) (S : σ → Prop) (Q : Exit → ASt → Prop) : Exit → ASt → Prop := fun e s => match e with
  | .normal => ∃ v, S v ∧ Wk s (J v)
  | e => Q e s

section
variable {P : Program} {T : TT} {n : Nat} {st : ASt} {Q : Exit → ASt → Prop}

theorem Wk.refl (s : ASt) : Wk s s := fun _ _ _ h => h
theorem Wk.trans {a b c : ASt} (h : Wk a b) (h' : Wk b c) : Wk a c := fun C x w hr => h' C x w (h C x w hr)

theorem Ok.wk {c : Code} {s' : ASt} (h : Wk st s') (hc : Ok P n c s' Q) : Ok P n c st Q := ⟨fun C hn a w hr => hc.h C hn a w (h C a w hr)⟩

theorem Ok.skip (h : Q .normal st) : Ok P n .skip st Q := ⟨fun _ _ _ _ hr => wp_skip ⟨st, hr, h⟩⟩
theorem Ok.label {l : Nat} (h : Q .normal st) : Ok P n (.label l) st Q := ⟨fun _ _ _ _ hr => wp_label ⟨st, hr, h⟩⟩
theorem Ok.exit {id : Nat} (h : Q (.exit id) st) : Ok P n (.exit id) st Q := ⟨fun _ _ _ _ hr => wp_exit ⟨st, hr, h⟩⟩
theorem Ok.ret (h : Q .ret st) : Ok P n .ret st Q := ⟨fun _ _ _ _ hr => wp_ret ⟨st, hr, h⟩⟩

theorem Ok.seq {x y : Code} (h : Ok P n x st (nx P n y Q)) : Ok P n (.seq x y) st Q := ⟨fun C hn a w hr => by
  refine wp_seq (wp_mono (h.h C hn a w hr) ?_)
  rintro e a' w' ⟨st', hr', hq⟩
  cases e <;> first | exact (show Ok P n y st' Q from hq).h C hn a' w' hr' | exact ⟨st', hr', hq⟩⟩

theorem Ok.seqw {x y : Code} (s1 : ASt) (hx : Ok P n x st (jn s1 Q)) (hy : Ok P n y s1 Q) : Ok P n (.seq x y) st Q := ⟨fun C hn a w hr => by
  refine wp_seq (wp_mono (hx.h C hn a w hr) ?_)
  rintro e a' w' ⟨st', hr', hq⟩
  cases e <;> first | exact hy.h C hn a' w' ((show Wk st' s1 from hq) C a' w' hr') | exact ⟨st', hr', hq⟩⟩

theorem Ok.seqj {σ : Type} {x y : Code} (J : σ → ASt) (S : σ → Prop) (hx : Ok P n x st (jnE J S Q)) (hy : ∀ v, S v → Ok P n y (J v) Q) : Ok P n (.seq x y) st Q := ⟨fun C hn a w hr => by
  refine wp_seq (wp_mono (hx.h C hn a w hr) ?_)
  rintro e a' w' ⟨st', hr', hq⟩
  cases e <;> first | (obtain ⟨v, hv, hw⟩ := (show ∃ v, S v ∧ Wk st' (J v) from hq); exact (hy v hv).h C hn a' w' (hw C a' w' hr')) | exact ⟨st', hr', hq⟩⟩

theorem Ok.region {id : Nat} {ops : Array Oper} (hT : TOk P T) (h : wpo P T n ops ops.toList st (Q .normal)) : Ok P n (.region id ops false) st Q :=
  ⟨fun C hn => wpc_sound (C := C) hT hn (.region id ops false) st Q h⟩

theorem Ok.draw {id m : Nat} {ops : Array Oper} (hT : TOk P T) (hm : P.follows .mixedOrders = true) (hchk : drawChk m ops = true)
    (h : wpd P T n ops (steady m ops) (eraseAll (boxesOf m ops) st) fun st1 => bindAll T n (boxesOf m ops) st1 fun st2 => wpo P T n ops (ops.toList.drop m) st2 (Q .normal)) : Ok P n (.region id ops true) st Q :=
  ⟨fun C hn => wpc_sound (C := C) hT hn (.region id ops true) st Q (draw_rule hT hm hchk h)⟩

theorem Ok.draw2 {id m : Nat} {late : List Nat} {ops : Array Oper} (hT : TOk P T) (hm : P.follows .mixedOrders = true) (hchk : drawChk2 m late ops = true)
    (h : wpd P T n ops (steady m ops) (eraseAll (boxesOf m ops) st) fun st1 => bindAll T n (boxesOf m ops) st1 fun st1 => atStore T ops m st1 fun st2 => lateL P T ops st2 late ∧ wpo P T n ops (ops.toList.drop (m + 1)) st2 (Q .normal)) : Ok P n (.region id ops true) st Q :=
  ⟨fun C hn => wpc_sound (C := C) hT hn (.region id ops true) st Q (draw_rule2 hT hm hchk h)⟩

theorem Ok.cond {d : Nat} {b : Bool} {x y : Code} {ρ : Type} {X Y : Option ρ} {r : ρ} (hb : st.f d = .v (.bool b)) (h : (if b = true then X else Y) = some r)
    (yes : b = true → X = some r → Ok P n x st Q) (no : b = false → Y = some r → Ok P n y st Q) : Ok P n (.cond (.tmp d) x y) st Q := ⟨fun C hn a w hr => by
  have hr' := hr
  obtain ⟨F, β, hs, hd, hf, he⟩ := hr'
  have hfd := hf d
  rw [hb] at hfd
  have hv : a.eval (.tmp d) = .bool b := hfd.v_inv
  refine wp_cond_split hv (fun ht => ?_) fun ht => ?_
  · exact (yes ht (by simpa [ht] using h)).h C hn a w hr
  · exact (no (by simpa using ht) (by simpa [ht] using h)).h C hn a w hr⟩

theorem Ok.condT {d : Nat} {x y : Code} (hb : st.f d = .v (.bool true)) (h : Ok P n x st Q) : Ok P n (.cond (.tmp d) x y) st Q :=
  .cond (ρ := Unit) (X := some ()) (Y := none) (r := ()) hb rfl (fun _ _ => h) fun h => by cases h
theorem Ok.condF {d : Nat} {x y : Code} (hb : st.f d = .v (.bool false)) (h : Ok P n y st Q) : Ok P n (.cond (.tmp d) x y) st Q :=
  .cond (ρ := Unit) (X := none) (Y := some ()) (r := ()) hb rfl (fun h => by cases h) fun _ _ => h
theorem Ok.condcT {x y : Code} (h : Ok P n x st Q) : Ok P n (.cond (.const (.bool true)) x y) st Q := ⟨fun C hn a w hr => wp_cond_true rfl (h.h C hn a w hr)⟩
theorem Ok.condcF {x y : Code} (h : Ok P n y st Q) : Ok P n (.cond (.const (.bool false)) x y) st Q := ⟨fun C hn a w hr => wp_cond_false rfl (h.h C hn a w hr)⟩

theorem Ok.block {id : Nat} {c : Code} (h : Ok P n c st (bk id Q)) : Ok P n (.block id c) st Q := ⟨fun C hn a w hr => by
  refine wp_block (wp_mono (h.h C hn a w hr) ?_)
  rintro e a' w' ⟨st', hr', hq⟩
  cases e with
  | exit i =>
    have hq : bif Nat.beq i id then Q .normal st' else Q (.exit i) st' := hq
    by_cases hi : i = id
    · subst hi
      simp only [Nat.beq_refl, cond_true] at hq
      simp only [Exit.inBlock, if_true]
      exact ⟨st', hr', hq⟩
    · have : Nat.beq i id = false := by cases hb : Nat.beq i id; rfl; exact absurd (Nat.eq_of_beq_eq_true hb) hi
      simp only [this, cond_false] at hq
      simp only [Exit.inBlock, if_neg hi]
      exact ⟨st', hr', hq⟩
  | _ => exact ⟨st', hr', hq⟩⟩

/-- What one round of a loop ends in. -/
def lp {σ ρ : Type} (J : σ → ASt) (x : σ ⊕ ρ) (Q : Exit → ASt → Prop) : Exit → ASt → Prop := fun e s => match e with
  | .normal => ∃ v, x = .inl v ∧ Wk s (J v)
  | e => Q e s

theorem Ok.loop {σ ρ : Type} {c : Code} (J : σ → ASt) (B : σ → Option (σ ⊕ ρ)) {r : ρ} {s0 : σ} (h : Cat.loop B s0 = some r) (h0 : Wk st (J s0))
    (round : ∀ s x, B s = some x → (∀ r', x = .inr r' → r' = r) → Ok P n c (J s) (lp J x Q)) : Ok P n (.loop c) st Q := ⟨fun C hn a w hr => by
  obtain ⟨k0, hk0⟩ := loop_some h
  refine wp_loop (fun a w => ∃ s k, loopN B k s = some r ∧ Rel C (J s) a w) (fun a w => by
    classical exact if h : ∃ k s, (loopN B k s = some r ∧ Rel C (J s) a w) ∧ ∀ k' s', loopN B k' s' = some r ∧ Rel C (J s') a w → k ≤ k' then h.choose else 0) ⟨s0, k0, hk0, h0 C a w hr⟩ ?_
  intro a w hex
  have hleast : ∃ k s, (loopN B k s = some r ∧ Rel C (J s) a w) ∧ ∀ k' s', loopN B k' s' = some r ∧ Rel C (J s') a w → k ≤ k' := by
    obtain ⟨s, k, hi⟩ := hex
    have key : ∀ m k s, k = m → loopN B k s = some r ∧ Rel C (J s) a w → ∃ k s, (loopN B k s = some r ∧ Rel C (J s) a w) ∧ ∀ k' s', loopN B k' s' = some r ∧ Rel C (J s') a w → k ≤ k' := by
      intro m
      induction m using Nat.strongRecOn with
      | _ m ih =>
        intro k s hm hi
        by_cases hsm : ∃ k' s', (loopN B k' s' = some r ∧ Rel C (J s') a w) ∧ k' < m
        · obtain ⟨k', s', hi', hlt⟩ := hsm
          exact ih k' hlt k' s' rfl hi'
        · refine ⟨k, s, hi, fun k' s' hi' => ?_⟩
          rcases Nat.lt_or_ge k' k with h | h
          · exact absurd ⟨k', s', hi', hm ▸ h⟩ hsm
          · exact h
    exact key _ k s rfl hi
  obtain ⟨s, ⟨hi, hrel⟩, hmin⟩ := hleast.choose_spec
  have hk : ∃ k, hleast.choose = k + 1 := by
    cases hc : hleast.choose with
    | zero => rw [hc] at hi; cases hi
    | succ k => exact ⟨k, rfl⟩
  obtain ⟨k, hk⟩ := hk
  have hi0 := hi
  rw [hk] at hi
  obtain ⟨x, hx, hfin⟩ : ∃ x, B s = some x ∧ (∀ r', x = .inr r' → r' = r) ∧ ∀ s', x = .inl s' → loopN B k s' = some r := by
    cases hB : B s with
    | none => simp [loopN, hB] at hi
    | some x =>
      refine ⟨x, rfl, fun r' hr' => ?_, fun s' hs' => ?_⟩
      · subst hr'; simpa [loopN, hB] using hi
      · subst hs'; simpa [loopN, hB] using hi
  refine wp_mono ((round s x hx hfin.1).h C hn a w hrel) ?_
  rintro e a' w' ⟨st', hr', hq⟩
  cases e with
  | normal =>
    obtain ⟨v, hv, hwk⟩ := (show ∃ v, x = .inl v ∧ Wk st' (J v) from hq)
    have hv' := hfin.2 v hv
    have hrel' := hwk C a' w' hr'
    refine ⟨⟨v, k, hv', hrel'⟩, ?_⟩
    rw [dif_pos hleast, hk]
    split
    · rename_i h'
      obtain ⟨_, _, hm⟩ := h'.choose_spec
      exact Nat.lt_succ_of_le (hm k v ⟨hv', hrel'⟩)
    · exact Nat.succ_pos _
  | _ => exact ⟨st', hr', hq⟩⟩

/-! States as tables. -/
def tab : List (Nat × AV) → Nat → AV
  | [], _ => .junk
  | (d, x) :: r, t => bif Nat.beq t d then x else tab r t

def HasF (f : Nat → AV) : List (Nat × AV) → Prop
  | [] => True
  | (d, x) :: r => Le (f d) x ∧ HasF f r

/-- What is known of a piece of memory, in other words: a box's cells by their trees. -/
inductive ChLe : Chunk → Chunk → Prop where
  | refl (c : Chunk) : ChLe c c
  | box {a b : List AV} (h : LeL a b) : ChLe (.box a) (.box b)

theorem ChLe.holds {w : World} {F : Nat → Prop} {β : Nat → Value} {i : Nat} {c c' : Chunk} (h : ChLe c c') (hc : c.holds w F β i) : c'.holds w F β i := by
  cases h with
  | refl => exact hc
  | box h =>
    obtain ⟨b, cs, e, hβ, hh, hs, h1, hr⟩ := hc
    obtain ⟨hl, hz⟩ := h.spec
    exact ⟨b, cs, e, hβ, hh, by omega, fun j hj => h1 j (by omega), fun j hj => hz j (by omega) _ _ _ _ (hr j (by omega))⟩

def HasH (H : Hp) : Hp → Prop
  | [] => True
  | (i, c) :: r => (∃ c0, findC i H = some c0 ∧ ChLe c0 c) ∧ HasH H r

def keysOk : Hp → Bool
  | [] => true
  | (i, _) :: r => r.all (fun p => !Nat.beq p.1 i) && keysOk r

theorem keysOk_nodup : ∀ {H : Hp}, keysOk H = true → (H.map (·.1)).Nodup
  | [], _ => List.nodup_nil
  | (i, c) :: r, h => by
    simp only [keysOk, Bool.and_eq_true] at h
    simp only [List.map_cons, List.nodup_cons]
    refine ⟨fun hm => ?_, keysOk_nodup h.2⟩
    obtain ⟨x, hx, hxe⟩ := List.mem_map.1 hm
    have := List.all_eq_true.1 h.1 x hx
    rw [hxe, Nat.beq_refl] at this
    cases this

theorem HasH.mem {H : Hp} : ∀ {H' : Hp}, HasH H H' → ∀ i c, (i, c) ∈ H' → ∃ c0, (i, c0) ∈ H ∧ ChLe c0 c
  | [], _, _, _, hx => by cases hx
  | (i, c) :: r, h, j, d, hx => by
    rcases List.mem_cons.1 hx with hx | hx
    · cases hx
      obtain ⟨c0, hc, hl⟩ := h.1
      exact ⟨c0, findC_mem hc, hl⟩
    · exact HasH.mem h.2 j d hx

theorem tab_rd {w : World} {F : Nat → Prop} {β : Nat → Value} {f : Nat → AV} {g : Nat → Value} (hf : ∀ t, Rd w F β (f t) (g t)) : ∀ {L : List (Nat × AV)}, HasF f L → ∀ t, Rd w F β (tab L t) (g t)
  | [], _, _ => .junk
  | (d, x) :: r, h, t => by
    simp only [tab]
    cases hb : Nat.beq t d with
    | true =>
      obtain rfl := Nat.eq_of_beq_eq_true hb
      exact h.1 _ _ _ _ (hf t)
    | false => exact tab_rd hf h.2 t

theorem Ext.sub {w0 : World} {F0 : Nat → Prop} {β0 : Nat → Value} {st0 : ASt} {w : World} {F : Nat → Prop} {β : Nat → Value} {H H' : Hp} (h : Ext w0 F0 β0 st0 w F β ⟨noSlots, H⟩) (hmem : ∀ i c, (i, c) ∈ H' → ∃ c0, (i, c0) ∈ H ∧ ChLe c0 c) (hk : (H'.map (·.1)).Nodup) : Ext w0 F0 β0 st0 w F β ⟨noSlots, H'⟩ where
  os := h.os
  tape := h.tape
  output := h.output
  size := h.size
  block := h.block
  mono := h.mono
  new := h.new
  owned b hb := h.owned b (by obtain ⟨i, c, hm, hb⟩ := hb; obtain ⟨c0, h0, _⟩ := hmem i c hm; exact ⟨i, c0, h0, hb⟩)
  keep _ _ _ := .junk
  inv := ⟨h.inv.fsize, fun i c hm => by obtain ⟨c0, h0, hl⟩ := hmem i c hm; exact hl.holds (h.inv.holds i c0 h0), hk,
    fun b ⟨i, c, hm, hb⟩ => by obtain ⟨c0, h0, _⟩ := hmem i c hm; exact h.inv.apart b ⟨i, c0, h0, hb⟩,
    fun i c i' c' b hm hm' hb hb' => by
      obtain ⟨c0, h0, _⟩ := hmem i c hm
      obtain ⟨c1, h1, _⟩ := hmem i' c' hm'
      exact h.inv.disj i c0 i' c1 b h0 h1 hb hb'⟩
  lab := h.lab

theorem Wk.tab {L : List (Nat × AV)} {H' : Hp} (hL : HasF st.f L) (hH : HasH st.H H') (hk : keysOk H' = true) : Wk st ⟨Cat.tab L, H'⟩ := fun C a w hr => by
  obtain ⟨F, β, hs, hd, hf, he⟩ := hr
  exact ⟨F, β, hs, hd, tab_rd hf hL, he.sub hH.mem (keysOk_nodup hk)⟩

theorem Ext.noS {w0 : World} {F0 : Nat → Prop} {β0 : Nat → Value} {st0 : ASt} {w : World} {F : Nat → Prop} {β : Nat → Value} {f : Nat → AV} {H : Hp} (h : Ext w0 F0 β0 st0 w F β ⟨f, H⟩) : Ext w0 F0 β0 st0 w F β ⟨noSlots, H⟩ where
  os := h.os
  tape := h.tape
  output := h.output
  size := h.size
  block := h.block
  mono := h.mono
  new := h.new
  owned := h.owned
  keep _ _ _ := .junk
  inv := h.inv
  lab := h.lab

/-- A nil slice is a slice of one's own, with nothing in it. -/
theorem Wk.own0 {t id E K : Nat} (hlt : Nat.blt id 1000 = true) (ht : st.f t = .v (.slice none 0 0)) : Wk st ⟨upd (fun t => er 2 id (st.f t)) t (.o id), (id, .own E K []) :: erH id st.H⟩ := fun C a w hr => by
  obtain ⟨F, β, hs, hd, hf, he⟩ := hr
  have hlow : id < 1000 := by simpa using hlt
  have hb : Below w.heap.size w w := Below.refl _ _
  have hx := ext_bindF (st := ⟨noSlots, st.H⟩) (w' := w) (F' := F) (c := .own E K []) (v := .slice none 0 0) hlow he.inv hb (fun _ h => h) (fun _ h => .inl h) (fun b hb => by cases hb) (.inl ⟨rfl, none, by simp⟩)
  have hβ : ∀ i, i ≠ id → (fun i => if i = id then Value.slice none 0 0 else β i) i = β i := fun i hi => if_neg hi
  refine ⟨F, _, hs, hd, fun q => ?_, (he.trans hx).noS⟩
  show Rd w F _ (bif Nat.beq q t then AV.o id else er 2 id (st.f q)) _
  cases hq : Nat.beq q t with
  | true =>
    obtain rfl := Nat.eq_of_beq_eq_true hq
    have h1 := hf q
    rw [ht] at h1
    rw [cond_true, h1.v_inv]
    exact .o (by simp)
  | false => exact er_rd hβ 2 (hf q)

/-- A slice of one's own that is given up: it may be read from now on, by whomever. -/
theorem Wk.freeze {id E K : Nat} {rows : List (List AV)} (hc : findC id st.H = some (.own E K rows)) : Wk st (frSt id rows st) := fun C a w hr => by
  obtain ⟨F, β, hs, hd, hf, he⟩ := hr
  have hI := he.inv
  have hm := findC_mem hc
  have hz : ∀ u, Rd w (fun b => F b ∨ blkOf (β id) = some b) β (.o id) u → Rd w (fun b => F b ∨ blkOf (β id) = some b) β (.s rows) u := fun u hu => by
    refine .i (freeze_rd hI hm ?_)
    obtain ⟨a, n, c, h1, rfl⟩ := hu.o_inv
    exact .o h1
  have up : ∀ {x u}, Rd w F β x u → Rd w (fun b => F b ∨ blkOf (β id) = some b) β x u := fun h => h.frame (fun _ _ => rfl) fun _ h => .inl h
  have hI' : Inv w (fun b => F b ∨ blkOf (β id) = some b) β (frH id rows st.H) := by
    refine ⟨fun b hb => hb.elim (hI.fsize b) fun hb => hI.owned_lt ⟨id, _, hm, hb⟩, fun i c h => ?_, frH_keys hI.keys, fun b ⟨i, c, h, hb⟩ hF => ?_, fun i c i' c' b h h' hb hb' => ?_⟩
    · obtain ⟨hi, c', h', rfl⟩ := frH_mem h
      have hh := hI.holds i c' h'
      cases c' with
      | own E' K' r => exact holds_imm (c := .own E' K' r) rfl (fun _ h => .inl h) rfl hh
      | mp ag r => exact holds_imm (c := .mp ag r) rfl (fun _ h => .inl h) rfl hh
      | box cells =>
        obtain ⟨b, cs, e, hb, hh, hs, h1, hr⟩ := hh
        refine ⟨b, cs, e, hb, hh, by simpa using hs, fun j hj => h1 j (by simpa using hj), fun j hj => ?_⟩
        have hj : j < cells.length := by simpa using hj
        have : (cells.map (sb (.s rows) 1 id)).getD j .junk = sb (.s rows) 1 id (cells.getD j .junk) := by simp [List.getD, hj]
        rw [this]
        exact sb_rd hz (fun _ _ => rfl) 1 (up (hr j hj))
    · obtain ⟨hi, c', h', _⟩ := frH_mem h
      rcases hF with hF | hF
      · exact hI.apart b ⟨i, c', h', hb⟩ hF
      · exact hi (hI.disj i c' id _ b h' hm hb hF)
    · obtain ⟨_, c2, h2, _⟩ := frH_mem h
      obtain ⟨_, c3, h3, _⟩ := frH_mem h'
      exact hI.disj i c2 i' c3 b h2 h3 hb hb'
  have hownF : ∀ b, Owned β (frH id rows st.H) b → Owned β st.H b := fun b ⟨i, c, h, hb⟩ => by
    obtain ⟨_, c2, h2, _⟩ := frH_mem h
    exact ⟨i, c2, h2, hb⟩
  refine ⟨_, β, hs, hd, fun t => sb_rd hz (fun _ _ => rfl) 2 (up (hf t)), he.os, he.tape, he.output, he.size, he.block, fun b hb => .inl (he.mono b hb), fun b hb => ?_, fun b hb => he.owned b (hownF b hb), fun _ _ _ => .junk, hI', he.lab⟩
  rcases hb with hb | hb
  · exact he.new b hb
  · exact .inr (he.owned b ⟨id, _, hm, hb⟩)

/-! Whole functions. -/
theorem calls_of_ok {g : Nat} {fn : Func} {c : Code} {args : List AV} {H : Hp} {R : AV → ASt → Prop} {w : World} {F : Nat → Prop} {β : Nat → Value} (hT : TOk P T) (hfn : P.funcs[g]? = some fn) (hb : fn.body = some c) (hn : fn.ntmps = n) (hle : args.length ≤ n)
    (h : Ok P n c ⟨initf args, H⟩ (fpost T fn.results.toList R)) {vs : Array Value} (hI : Inv w F β H) (hs : vs.size = args.length) (hv : ∀ i, i < args.length → Rd w F β (args.getD i .junk) (vs.getD i undef)) :
    Calls P g vs w fun e w' => ∃ v, e = .returned v ∧ ∃ x st F' β', R x st ∧ Rd w' F' β' x v ∧ Ext w F β ⟨noSlots, H⟩ w' F' β' ⟨noSlots, st.H⟩ := by
  refine calls_of_wp hfn hb ?_
  let C : Ctx := ⟨w, F, β, H, n⟩
  have hr : Rel C ⟨initf args, H⟩ { tmps := vs ++ Array.replicate (fn.ntmps - vs.size) undef, defers := [] } w :=
    ⟨F, β, by simp [C, hn]; omega, rfl, init_rd hs hv, Ext.refl hI⟩
  refine wp_mono (h.h C rfl _ w hr) ?_
  rintro e a' w' ⟨st, ⟨F', β', _, hd, hf, he⟩, hq⟩
  cases e with
  | normal =>
    obtain ⟨v, x, hrun, hk, hx⟩ := resK_sound (P := P) (st := st) hT he.inv hf hq
    exact ⟨hd, v, hrun, v, rfl, x, st, F', β', hk, hx, he⟩
  | ret =>
    obtain ⟨v, x, hrun, hk, hx⟩ := resK_sound (P := P) (st := st) hT he.inv hf hq
    exact ⟨hd, v, hrun, v, rfl, x, st, F', β', hk, hx, he⟩
  | exit id => exact hq.elim
  | goto l => exact hq.elim
  | panic ch => exact hq.elim
  | outgrown => exact hq.elim

theorem pure_of_ok {g : Nat} {fn : Func} {c : Code} {args : List AV} {r : AV} (hT : TOk P T) (hfn : P.funcs[g]? = some fn) (hnm : (fn.name == "runtime.NumGoroutine") = false) (hb : fn.body = some c) (hn : fn.ntmps = n) (hle : args.length ≤ n)
    (h : Ok P n c ⟨initf args, []⟩ (fpost T fn.results.toList fun x st => Fz st.H x r)) : Pure P g args r := by
  refine ⟨⟨fn, c, hfn, hnm, hb⟩, fun w F β vs hI hs hv => ?_⟩
  refine (calls_of_ok hT hfn hb hn hle h hI hs hv).mono ?_
  rintro e w' ⟨v, rfl, x, st, F', β', hz, hx, he⟩
  have hno : ∀ b, ¬ Owned β ([] : Hp) b := by rintro b ⟨id, c, hm, _⟩; cases hm
  refine ⟨v, rfl, ⟨he.os, he.tape, he.output, he.size, fun b hb' => he.block b hb' (hno b)⟩, ?_⟩
  refine (hz w' F' β' v he.inv hx).frame (fun _ _ => rfl) fun b hb' => ?_
  rcases hb' with hb' | hb'
  · rcases he.new b hb' with h1 | h1 | h1
    · exact .inl h1
    · exact .inr ⟨h1, he.inv.fsize b hb'⟩
    · exact (hno b h1).elim
  · rcases he.owned b hb' with h1 | h1
    · exact .inr ⟨h1, he.inv.owned_lt hb'⟩
    · exact (hno b h1).elim

theorem pown_of_ok {g E K : Nat} {fn : Func} {c : Code} {args : List AV} {rows : List (List AV)} (hT : TOk P T) (hfn : P.funcs[g]? = some fn) (hnm : (fn.name == "runtime.NumGoroutine") = false) (hb : fn.body = some c) (hn : fn.ntmps = n) (hle : args.length ≤ n)
    (h : Ok P n c ⟨initf args, []⟩ (fpost T fn.results.toList (EndOwn E K rows))) : POwn P g args E K rows := by
  refine ⟨⟨fn, c, hfn, hnm, hb⟩, fun w F β vs hI hs hv => ?_⟩
  refine (calls_of_ok hT hfn hb hn hle h hI hs hv).mono ?_
  rintro e w' ⟨v, rfl, x, st, F', β', hz, hx, he⟩
  have hno : ∀ b, ¬ Owned β ([] : Hp) b := by rintro b ⟨id, c, hm, _⟩; cases hm
  refine ⟨v, rfl, ⟨he.os, he.tape, he.output, he.size, fun b hb' => he.block b hb' (hno b)⟩, F', he.mono, fun b hb' => ?_, ?_⟩
  · rcases he.new b hb' with h1 | h1 | h1
    · exact .inl h1
    · exact .inr ⟨h1, he.inv.fsize b hb'⟩
    · exact (hno b h1).elim
  · rcases hz with ⟨rfl, rfl⟩ | ⟨id, rfl, hc⟩
    · rw [hx.v_inv]
      exact ⟨.inl ⟨rfl, none, rfl⟩, ⟨_, _, _, rfl⟩, fun b hb' => by cases hb'⟩
    · obtain ⟨a, m, cp, hβ, rfl⟩ := hx.o_inv
      have hm := findC_mem hc
      refine ⟨own_any (he.inv.holds _ _ hm) _ _ hβ.symm, ⟨_, _, _, rfl⟩, fun b hb' => ?_⟩
      have ho : Owned β' st.H b := ⟨id, _, hm, by rw [hβ]; exact hb'⟩
      refine ⟨?_, he.inv.apart b ho⟩
      rcases he.owned b ho with h1 | h1
      · exact h1
      · exact (hno b h1).elim

theorem pchg_of_ok {g : Nat} {fn : Func} {c : Code} {args : List AV} {ch : Chunk} {R : AV → Chunk → Prop} (hT : TOk P T) (hfn : P.funcs[g]? = some fn) (hnm : (fn.name == "runtime.NumGoroutine") = false) (hb : fn.body = some c) (hn : fn.ntmps = n) (hle : args.length ≤ n)
    (h : Ok P n c ⟨initf args, [(1000, ch)]⟩ (fpost T fn.results.toList (EndChg R))) : PChg P g args ch R := by
  refine ⟨⟨fn, c, hfn, hnm, hb⟩, fun w F β vs hI hs hv => ?_⟩
  refine (calls_of_ok hT hfn hb hn hle h hI hs hv).mono ?_
  rintro e w' ⟨v, rfl, x, st, F', β', ⟨r, c', hR, hc', himm, hz⟩, hx, he⟩
  have hm := findC_mem hc'
  have hlab : β' 1000 = β 1000 := he.lab 1000 (Nat.le_refl _)
  have hI0 := he.inv.dropC 1000
  have hown0 : ∀ b, Owned β [(1000, ch)] b ↔ blkOf (β 1000) = some b := fun b => ⟨fun ⟨i, c, hm, hb⟩ => by
    simp only [List.mem_singleton, Prod.mk.injEq] at hm; rw [← hm.1]; exact hb, fun hb => ⟨1000, ch, by simp, hb⟩⟩
  have hmine : ∀ b, blkOf (β 1000) = some b → Owned β' st.H b := fun b hb => ⟨1000, c', hm, by rw [hlab]; exact hb⟩
  refine ⟨v, rfl, r, c', fun b => F' b ∨ Owned β' (dropC 1000 st.H) b, hR, hz w' F' β' v hI0 hx, he.os, he.tape, he.output, he.size, fun b hb' hne => he.block b hb' fun ho => hne ((hown0 b).1 ho), fun b hb => .inl (he.mono b hb), fun b hb => ?_, himm, ?_⟩
  · rcases hb with hb | ⟨i, ci, hmi, hb⟩
    · rcases he.new b hb with h1 | h1 | h1
      · exact .inl h1
      · exact .inr ⟨h1, he.inv.fsize b hb⟩
      · exact absurd hb (he.inv.apart b (hmine b ((hown0 b).1 h1)))
    · have ho : Owned β' st.H b := ⟨i, ci, (dropC_mem.1 hmi).1, hb⟩
      rcases he.owned b ho with h1 | h1
      · exact .inr ⟨h1, he.inv.owned_lt ho⟩
      · exact absurd (he.inv.disj i ci 1000 c' b (dropC_mem.1 hmi).1 hm hb (by rw [hlab]; exact (hown0 b).1 h1)) (dropC_mem.1 hmi).2
  · exact holds_imm himm (fun _ h => .inl h) hlab.symm (he.inv.holds _ _ hm)

end
end Go.Cat
