/- Operations that make, or write to, memory of the call's own: what each does to the state, and that the machine agrees. No condition. -/
import Derived.Test.YtkbkfcehehofnaaCatG
namespace Go.Cat
set_option linter.all false
open Go.RowKit
variable [M : Mono]

/-- The tree with z for the slice of a label's own, and without its pointers. -/
def sb (z : AV) : Nat → Nat → AV → AV
  | n, id, x => match x with
    | .b i o => bif Nat.beq i id then .junk else .b i o
    | .o i => bif Nat.beq i id then z else .o i
    | .e i K m j => bif Nat.beq i id then .junk else .e i K m j
    | .w i K d => bif Nat.beq i id then .junk else .w i K d
    | .m i => bif Nat.beq i id then .junk else .m i
    | .a cs => match n with
      | 0 => .junk
      | n + 1 => .a (cs.map (sb z n id))
    | .t cs => match n with
      | 0 => .junk
      | n + 1 => .t (cs.map (sb z n id))
    | .c fn fs cs => match n with
      | 0 => .junk
      | n + 1 => .c fn (fs.map (sb z n id)) (cs.map (sb z n id))
    | .v x => .v x
    | .s r => .s r
    | .p c => .p c
    | .junk => .junk

/-- The tree without a label. -/
abbrev er (n id : Nat) (x : AV) : AV := sb .junk n id x

def erC (id : Nat) : Chunk → Chunk
  | .box cells => .box (cells.map (er 1 id))
  | .own E k rows => .own E k rows
  | .mp ag rows => .mp ag rows

def erH (id : Nat) : Hp → Hp
  | [] => []
  | (i, c) :: r => bif Nat.beq i id then erH id r else (i, erC id c) :: erH id r

def upd (f : Nat → AV) (d : Nat) (x : AV) : Nat → AV := fun t => bif Nat.beq t d then x else f t

section
variable {w : World} {F : Nat → Prop} {β β' : Nat → Value}

theorem er_if {id i : Nat} {x : AV} {u : Value} (h : i ≠ id → Rd w F β' x u) : Rd w F β' (bif Nat.beq i id then .junk else x) u := by
  cases hb : Nat.beq i id with
  | true => exact .junk
  | false => exact h fun e => by rw [e, Nat.beq_refl] at hb; cases hb

theorem sb_if {z : AV} {id i : Nat} {x : AV} {u : Value} (hz : i = id → Rd w F β' z u) (h : i ≠ id → Rd w F β' x u) : Rd w F β' (bif Nat.beq i id then z else x) u := by
  cases hb : Nat.beq i id with
  | true => exact hz (Nat.eq_of_beq_eq_true hb)
  | false => exact h fun e => by rw [e, Nat.beq_refl] at hb; cases hb

theorem sb_rd {z : AV} {id : Nat} (hz : ∀ u, Rd w F β (.o id) u → Rd w F β' z u) (hβ : ∀ i, i ≠ id → β' i = β i) : ∀ (n : Nat) {x : AV} {u : Value}, Rd w F β x u → Rd w F β' (sb z n id x) u := by
  have b_case : ∀ {i o : Nat} {u : Value}, Rd w F β (.b i o) u → Rd w F β' (bif Nat.beq i id then .junk else .b i o) u := fun h => er_if fun hi => by
    obtain ⟨blk, h1, rfl⟩ := h.b_inv; exact .b ((hβ _ hi).trans h1)
  have o_case : ∀ {i : Nat} {u : Value}, Rd w F β (.o i) u → Rd w F β' (bif Nat.beq i id then z else .o i) u := fun h => sb_if (fun e => hz _ (e ▸ h)) fun hi => by
    obtain ⟨a, n, c, h1, rfl⟩ := h.o_inv; exact .o ((hβ _ hi).trans h1)
  have e_case : ∀ {i K m j : Nat} {u : Value}, Rd w F β (.e i K m j) u → Rd w F β' (bif Nat.beq i id then .junk else .e i K m j) u := fun h => er_if fun hi => by
    obtain ⟨g, n, c, h1, rfl⟩ := h.e_inv; exact .e ((hβ _ hi).trans h1)
  have m_case : ∀ {i : Nat} {u : Value}, Rd w F β (.m i) u → Rd w F β' (bif Nat.beq i id then .junk else .m i) u := fun h => er_if fun hi => by
    obtain ⟨b, h1, rfl⟩ := h.m_inv; exact .m ((hβ _ hi).trans h1)
  have w_case : ∀ {i K d : Nat} {u : Value}, Rd w F β (.w i K d) u → Rd w F β' (bif Nat.beq i id then .junk else .w i K d) u := fun h => er_if fun hi => by
    obtain ⟨a, a', n, c, h1, h2, h3, rfl⟩ := h.w_inv; exact .w ((hβ _ hi).trans h1) h2 h3
  have v_case : ∀ {x u : Value}, Rd w F β (.v x) u → Rd w F β' (.v x) u := fun h => by cases h; exact .i (by assumption)
  intro n
  induction n with
  | zero =>
    intro x u h
    cases x with
    | v x => exact v_case h
    | s r => exact .i h.s_inv
    | p c => exact .i h.p_inv
    | junk => exact .junk
    | a cs => exact .junk
    | t cs => exact .junk
    | c fn fs cs => exact .junk
    | b i o => exact b_case h
    | o i => exact o_case h
    | e i K m j => exact e_case h
    | w i K d => exact w_case h
    | m i => exact m_case h
  | succ n ih =>
    have get : ∀ (l : List AV) (i : Nat), i < l.length → (l.map (sb z n id)).getD i .junk = sb z n id (l.getD i .junk) := fun l i hi => by simp [List.getD, hi]
    intro x u h
    cases x with
    | v x => exact v_case h
    | s r => exact .i h.s_inv
    | p c => exact .i h.p_inv
    | junk => exact .junk
    | a cs =>
      show Rd w F β' (.a (cs.map (sb z n id))) u
      obtain ⟨us, rfl, hs, h1, hr⟩ := h.a_inv
      refine .a (by simpa using hs) (fun i hi => h1 i (by simpa using hi)) fun i hi => ?_
      have hi : i < cs.length := by simpa using hi
      rw [get cs i hi]; exact ih (hr i hi)
    | t cs =>
      show Rd w F β' (.t (cs.map (sb z n id))) u
      obtain ⟨us, rfl, hs, hr⟩ := h.t_inv
      refine .t (by simpa using hs) fun i hi => ?_
      have hi : i < cs.length := by simpa using hi
      rw [get cs i hi]; exact ih (hr i hi)
    | c fn fs cs =>
      show Rd w F β' (.c fn (fs.map (sb z n id)) (cs.map (sb z n id))) u
      obtain ⟨us, vs, rfl, hs, hs', hr, hr'⟩ := h.c_inv
      refine .c (by simpa using hs) (by simpa using hs') (fun i hi => ?_) fun i hi => ?_
      · have hi : i < fs.length := by simpa using hi
        rw [get fs i hi]; exact ih (hr i hi)
      · have hi : i < cs.length := by simpa using hi
        rw [get cs i hi]; exact ih (hr' i hi)
    | b i o => exact b_case h
    | o i => exact o_case h
    | e i K m j => exact e_case h
    | w i K d => exact w_case h
    | m i => exact m_case h

theorem er_rd {id : Nat} (hβ : ∀ i, i ≠ id → β' i = β i) (n : Nat) {x : AV} {u : Value} (h : Rd w F β x u) : Rd w F β' (er n id x) u := sb_rd (fun _ _ => .junk) hβ n h

theorem erH_mem {id : Nat} : ∀ {H : Hp} {i : Nat} {c : Chunk}, (i, c) ∈ erH id H → i ≠ id ∧ ∃ c', (i, c') ∈ H ∧ c = erC id c'
  | [], _, _, h => by cases h
  | (j, c') :: r, i, c, h => by
    simp only [erH] at h
    cases hb : Nat.beq j id with
    | true =>
      rw [hb] at h
      obtain ⟨h1, c2, h2, h3⟩ := erH_mem (H := r) h
      exact ⟨h1, c2, List.mem_cons_of_mem _ h2, h3⟩
    | false =>
      rw [hb] at h
      simp only [cond_false, List.mem_cons, Prod.mk.injEq] at h
      rcases h with ⟨rfl, rfl⟩ | h
      · exact ⟨fun e => (by rw [e, Nat.beq_refl] at hb; cases hb), c', by simp, rfl⟩
      · obtain ⟨h1, c2, h2, h3⟩ := erH_mem (H := r) h
        exact ⟨h1, c2, List.mem_cons_of_mem _ h2, h3⟩

theorem erH_keys {id : Nat} : ∀ {H : Hp}, (H.map (·.1)).Nodup → ((erH id H).map (·.1)).Nodup
  | [], _ => by simp [erH]
  | (j, c) :: r, h => by
    simp only [List.map_cons, List.nodup_cons] at h
    simp only [erH]
    cases hb : Nat.beq j id with
    | true => exact erH_keys h.2
    | false =>
      simp only [cond_false, List.map_cons, List.nodup_cons]
      refine ⟨fun hm => ?_, erH_keys h.2⟩
      obtain ⟨x, hx, hxe⟩ := List.mem_map.1 hm
      obtain ⟨i, c'⟩ := x
      obtain ⟨_, c2, h2, _⟩ := erH_mem hx
      exact h.1 (List.mem_map.2 ⟨(i, c2), h2, hxe⟩)

theorem holds_er {id i : Nat} {c : Chunk} (hi : i ≠ id) (hβ : ∀ i, i ≠ id → β' i = β i) (h : c.holds w F β i) : (erC id c).holds w F β' i := by
  cases c with
  | box cells =>
    obtain ⟨b, cs, e, hb, hh, hs, h1, hr⟩ := h
    refine ⟨b, cs, e, (hβ i hi).trans hb, hh, by simpa using hs, fun j hj => h1 j (by simpa using hj), fun j hj => ?_⟩
    have hj : j < cells.length := by simpa using hj
    have : (cells.map (er 1 id)).getD j .junk = er 1 id (cells.getD j .junk) := by simp [List.getD, hj]
    rw [this]
    exact er_rd hβ 1 (hr j hj)
  | own E k rows =>
    unfold erC Chunk.holds at *
    rw [hβ i hi]
    exact h
  | mp ag rows =>
    unfold erC Chunk.holds at *
    rw [hβ i hi]
    exact h

theorem holds_frame {w' : World} {F' : Nat → Prop} {i : Nat} {c : Chunk} (ha : Agree F w w') (hF : ∀ b, F b → F' b) (hb : ∀ b, blkOf (β i) = some b → w'.heap[b]? = w.heap[b]?) (h : c.holds w F β i) : c.holds w' F' β i := by
  cases c with
  | box cells =>
    obtain ⟨b, cs, e, hβ, hh, hs, h1, hr⟩ := h
    exact ⟨b, cs, e, hβ, by rw [hb b (by rw [hβ]; rfl)]; exact hh, hs, h1, fun j hj => (hr j hj).frame ha hF⟩
  | mp ag rows =>
    obtain ⟨b, es, ck, hβ, hh, hst, hs, hm, hr⟩ := h
    refine ⟨b, es, ck, hβ, by rw [hb b (by rw [hβ]; rfl)]; exact hh, hst, hs, hm, fun i r hi => ?_⟩
    obtain ⟨e, h1, h2, h3, h4⟩ := hr i r hi
    exact ⟨e, h1, h2, h3, h4.frame ha hF⟩
  | own E k rows =>
    rcases h with h | ⟨g, cap, cur, hv, hc, hg, hn, hm, hs, hk, hr⟩
    · exact .inl h
    · have h0 : Nat.beq cap 0 = false := by cases cap <;> first | rfl | omega
      refine .inr ⟨g, cap, cur, hv, hc, by rw [hb g (by rw [hv]; simp [blkOf, h0])]; exact hg, hn, hm, hs, hk, fun i j hi hj => ⟨(hr i j hi hj).1, (hr i j hi hj).2.frame ha hF⟩⟩

/-- What a quiet run leaves. -/
theorem ext_quiet {st : ASt} {w' : World} (hI : Inv w F β st.H) (hb : Below w.heap.size w w') : Ext w F β st w' (FNew F w w') β st where
  os := hb.os
  tape := hb.tape
  output := hb.output
  size := hb.size
  block _ h _ := hb.block _ h
  mono _ h := .inl h
  new _ h := h.elim .inl fun h => .inr (.inl h.1)
  owned _ h := .inr h
  keep _ _ h := h.later hb hI.fsize
  inv := {
    fsize := fun b h => h.elim (fun h => Nat.lt_of_lt_of_le (hI.fsize b h) hb.size) fun h => h.2
    holds := fun id c hm => holds_frame (Below.agree hb hI.fsize) (fun _ h => .inl h) (fun b hbk => hb.block b (hI.owned_lt ⟨id, c, hm, hbk⟩)) (hI.holds id c hm)
    keys := hI.keys
    apart := fun b ho h => h.elim (hI.apart b ho) fun h => absurd (hI.owned_lt ho) (Nat.not_lt.2 h.1)
    disj := hI.disj }
  lab _ _ := rfl

/-- A label is bound anew: to memory that was not there, or to what it had itself. 'w1' holds all blocks but the label's own as w did. -/
theorem ext_bind {st : ASt} {w' : World} {d : Nat} {c : Chunk} {v : Value} (hd : d < 1000) (hI : Inv w F β st.H) (hos : w'.os = w.os) (htape : SameT w w') (hout : w'.output = w.output) (hsize : w.heap.size ≤ w'.heap.size)
    (hblock : ∀ b, b < w.heap.size → ¬ Owned β st.H b → w'.heap[b]? = w.heap[b]?)
    (hother : ∀ i c' b, i ≠ d → (i, c') ∈ st.H → blkOf (β i) = some b → w'.heap[b]? = w.heap[b]?)
    (hnew : ∀ b, blkOf v = some b → w.heap.size ≤ b ∨ ∃ c', (d, c') ∈ st.H ∧ blkOf (β d) = some b)
    (hc : c.holds w' F (fun i => if i = d then v else β i) d) :
    Ext w F β st w' F (fun i => if i = d then v else β i) ⟨fun t => er 2 d (st.f t), (d, c) :: erH d st.H⟩ := by
  have hβ : ∀ i, i ≠ d → (fun i => if i = d then v else β i) i = β i := fun i hi => if_neg hi
  have ha : Agree F w w' := fun b hb => hblock b (hI.fsize b hb) fun ho => hI.apart b ho hb
  have hown : ∀ b, Owned (fun i => if i = d then v else β i) ((d, c) :: erH d st.H) b → w.heap.size ≤ b ∨ Owned β st.H b := by
    rintro b ⟨i, c', hm, hb⟩
    rcases List.mem_cons.1 hm with hm | hm
    · cases hm
      simp only [if_true] at hb
      rcases hnew b hb with h | ⟨c', h1, h2⟩
      · exact .inl h
      · exact .inr ⟨d, c', h1, h2⟩
    · obtain ⟨hi, c2, h2, _⟩ := erH_mem hm
      simp only [if_neg hi] at hb
      exact .inr ⟨i, c2, h2, hb⟩
  refine ⟨hos, htape, hout, hsize, hblock, fun _ h => h, fun _ h => .inl h, hown, fun t u h => er_rd hβ 2 (h.frame ha fun _ h => h), ?_, fun i hi => hβ i (by omega)⟩
  refine ⟨fun b hb => Nat.lt_of_lt_of_le (hI.fsize b hb) hsize, ?_, ?_, ?_, ?_⟩
  · intro i c' hm
    rcases List.mem_cons.1 hm with hm | hm
    · cases hm; exact hc
    · obtain ⟨hi, c2, h2, rfl⟩ := erH_mem hm
      exact holds_er hi hβ (holds_frame ha (fun _ h => h) (fun b hb => hother i c2 b hi h2 hb) (hI.holds i c2 h2))
  · simp only [List.map_cons, List.nodup_cons]
    refine ⟨fun hm => ?_, erH_keys hI.keys⟩
    obtain ⟨x, hx, hxe⟩ := List.mem_map.1 hm
    obtain ⟨i, c'⟩ := x
    exact (erH_mem hx).1 hxe
  · intro b ho hF
    rcases hown b ho with h | h
    · exact absurd (hI.fsize b hF) (Nat.not_lt.2 h)
    · exact hI.apart b h hF
  · have key : ∀ i c' b, (i, c') ∈ erH d st.H → blkOf (β i) = some b → blkOf v = some b → False := by
      intro i c' b hm hb hv
      obtain ⟨hi, c2, h2, _⟩ := erH_mem hm
      rcases hnew b hv with h | ⟨c3, h3, h4⟩
      · exact absurd (hI.owned_lt ⟨i, c2, h2, hb⟩) (Nat.not_lt.2 h)
      · exact hi (hI.disj i c2 d c3 b h2 h3 hb h4)
    intro i c1 i' c1' b hm hm' hb hb'
    rcases List.mem_cons.1 hm with hm | hm <;> rcases List.mem_cons.1 hm' with hm' | hm'
    · cases hm; cases hm'; rfl
    · cases hm
      simp only [if_true] at hb
      have hi' := (erH_mem hm').1
      simp only [if_neg hi'] at hb'
      exact (key i' c1' b hm' hb' hb).elim
    · cases hm'
      simp only [if_true] at hb'
      have hi := (erH_mem hm).1
      simp only [if_neg hi] at hb
      exact (key i c1 b hm hb hb').elim
    · obtain ⟨hi, c2, h2, _⟩ := erH_mem hm
      obtain ⟨hi', c2', h2', _⟩ := erH_mem hm'
      simp only [if_neg hi] at hb
      simp only [if_neg hi'] at hb'
      exact hI.disj i c2 i' c2' b h2 h2' hb hb'
end
end Go.Cat
