/- A region that draws its order: operations that only read and compute, then new boxes, then the rest in the text's order; whatever order is drawn. No condition. -/
import Derived.Test.YtkbkfcehehofnaaCatN
namespace Go.Cat
set_option linter.all false
open Go.RowKit
variable [M : Mono]

/-- The box that an operation lays, if it lays one and nothing else. -/
def alOf (o : Oper) : Option (Nat × Nat) :=
  match o.op, o.dst, o.guard with
  | .alloc t, some d, none => some (d, t)
  | _, _, _ => none

def eraseAll : List (Nat × Nat) → ASt → ASt
  | [], st => st
  | (d, _) :: r, st => eraseAll r ⟨fun t => er 2 d (st.f t), erH d st.H⟩

def bindAll (T : TT) (n : Nat) : List (Nat × Nat) → ASt → (ASt → Prop) → Prop
  | [], st, K => K st
  | (d, t) :: r, st, K => match T t with
    | some i => bif okCells (ofV i.zero) && Nat.blt d n then bindAll T n r ⟨upd st.f d (.b d 0), (d, .box (cellsL (ofV i.zero))) :: st.H⟩ K else False
    | none => False

/-- Operations that only read and compute, in the text's order. -/
def wpd (P : Program) (T : TT) (n : Nat) (all : Array Oper) : List Oper → ASt → (ASt → Prop) → Prop
  | [], st, K => K st
  | o :: os, st, K => gd n all o st (fun st => ∃ r, stepS P T o (ev st.f) st.H (fun r' => r' = r) ∧ put n o.dst st r fun st' => wpd P T n all os st' K) fun st => put n o.dst st (.v undef) fun st' => wpd P T n all os st' K

section
variable {P : Program} {T : TT} {w : World} {F : Nat → Prop} {β β' : Nat → Value} {H : Hp}

theorem stepS_congr {o : Oper} {ρ ρ' : Operand → AV} {k : AV → Prop} (h : ∀ x, x ∈ o.op.operands → ρ x = ρ' x) (hs : stepS P T o ρ H k) : stepS P T o ρ' H k := by
  obtain ⟨dst, op, type, pos, after, guard⟩ := o
  have parts : ∀ ps : Array (Nat × Operand), (∀ x, x ∈ ps.map (·.2) → ρ x = ρ' x) → (ps.toList.map fun q => (q.1, ρ q.2)) = ps.toList.map fun q => (q.1, ρ' q.2) := fun ps hp =>
    List.map_congr_left fun q hq => by rw [hp q.2 (Array.mem_map.2 ⟨q, by simpa using hq, rfl⟩)]
  have lst : ∀ xs : Array Operand, (∀ x, x ∈ xs → ρ x = ρ' x) → xs.toList.map ρ = xs.toList.map ρ' := fun xs hp => List.map_congr_left fun x hx => hp x (by simpa using hx)
  cases op <;> simp only [Op.operands] at h <;> simp only [stepS] at hs ⊢
  case build t ps => rwa [← parts ps fun x hx => h x (by simpa using hx)]
  case buildSlice t n ps => rwa [← parts ps fun x hx => h x (by simpa using hx)]
  case makeFunc fn fs cs => rwa [← lst fs fun x hx => h x (by simp [hx]), ← lst cs fun x hx => h x (by simp [hx])]
  case slice t x lo hi mx => cases lo <;> cases hi <;> cases mx <;> simp_all
  case call c =>
    obtain ⟨callee, args, argTypes⟩ := c
    have ha := lst args fun x hx => h x (by simp [Call.operands, hx])
    cases callee with
    | builtin b => simp only at hs ⊢; rwa [← ha]
    | value f => simp only at hs ⊢; rwa [← ha, ← h f (by simp [Call.operands])]
    | invoke r m => exact hs
  all_goals first | exact hs | (simp_all; done)

theorem Rd.undef_change {d : Nat} (hd : β d = undef) (hβ : ∀ i, i ≠ d → β' i = β i) {x : AV} {u : Value} (h : Rd w F β x u) : Rd w F β' x u := by
  have ne : ∀ {i : Nat} {v : Value}, β i = v → v ≠ undef → i ≠ d := fun h hv e => hv (by rw [← h, e, hd])
  induction h with
  | i h => exact .i h
  | junk => exact .junk
  | b h => exact .b ((hβ _ (ne h (by simp [undef]))).trans h)
  | o h => exact .o ((hβ _ (ne h (by simp [undef]))).trans h)
  | e h => exact .e ((hβ _ (ne h (by simp [undef]))).trans h)
  | w h hd ha => exact .w ((hβ _ (ne h (by simp [undef]))).trans h) hd ha
  | m h => exact .m ((hβ _ (ne h (by simp [undef]))).trans h)
  | a hs hone h ih => exact .a hs hone ih
  | t hs h ih => exact .t hs ih
  | c hs hs' h h' ih ih' => exact .c hs hs' ih ih'

theorem holds_change {d i : Nat} {c : Chunk} (hd : β d = undef) (hβ : ∀ i, i ≠ d → β' i = β i) (hi : i ≠ d) (h : c.holds w F β i) : c.holds w F β' i := by
  cases c with
  | box cells =>
    obtain ⟨b, cs, e, hb, hh, hs, h1, hr⟩ := h
    exact ⟨b, cs, e, (hβ i hi).trans hb, hh, hs, h1, fun j hj => (hr j hj).undef_change hd hβ⟩
  | own E k rows =>
    unfold Chunk.holds at *
    rw [hβ i hi]
    exact h
  | mp ag rows =>
    unfold Chunk.holds at *
    rw [hβ i hi]
    exact h

theorem Inv.sub {H' : Hp} (h : Inv w F β H) (hsub : ∀ x, x ∈ H' → x ∈ H) (hk : (H'.map (·.1)).Nodup) : Inv w F β H' :=
  ⟨h.fsize, fun id c hm => h.holds id c (hsub _ hm), hk, fun b ⟨id, c, hm, hb⟩ => h.apart b ⟨id, c, hsub _ hm, hb⟩, fun id c id' c' b h1 h2 => h.disj id c id' c' b (hsub _ h1) (hsub _ h2)⟩

theorem Ext.congr_heap {w0 : World} {F0 : Nat → Prop} {β0 : Nat → Value} {st0 : ASt} {H' : Hp} (h : Ext w0 F0 β0 st0 w F β ⟨noSlots, H⟩) (hmem : ∀ x, x ∈ H' ↔ x ∈ H) (hk : (H'.map (·.1)).Nodup) : Ext w0 F0 β0 st0 w F β ⟨noSlots, H'⟩ where
  os := h.os
  tape := h.tape
  output := h.output
  size := h.size
  block := h.block
  mono := h.mono
  new := h.new
  owned := fun b ⟨id, c, hm, hb⟩ => h.owned b ⟨id, c, (hmem _).1 hm, hb⟩
  keep := fun _ _ _ => .junk
  inv := h.inv.sub (fun x hx => (hmem x).1 hx) hk
  lab := h.lab

/-- A new box under a label that names nothing. -/
theorem ext_alloc {d : Nat} {cells : List AV} {us : Array Value} {e : TypeId} {f : Nat → AV} (hlow : d < 1000) (hI : Inv w F β H) (hd : β d = undef) (hkey : ∀ c, (d, c) ∉ H) (hs : us.size = cells.length) (h1 : ∀ i, i < cells.length → (us.getD i undef).oneCell' = true)
    (hr : ∀ β, ∀ i, i < cells.length → Rd (w.alloc (.cells us e)) F β (cells.getD i .junk) (us.getD i undef)) :
    Ext w F β ⟨f, H⟩ (w.alloc (.cells us e)) F (fun i => if i = d then .pointer (some ⟨w.heap.size, 0, none⟩) else β i) ⟨f, (d, .box cells) :: H⟩ := by
  have hβ : ∀ i, i ≠ d → (fun i => if i = d then Value.pointer (some ⟨w.heap.size, 0, none⟩) else β i) i = β i := fun i hi => if_neg hi
  have hal : ∀ b, b < w.heap.size → (w.alloc (.cells us e)).heap[b]? = w.heap[b]? := fun b hb => _root_.Go.heap_alloc_old w _ hb
  have ha : Agree F w (w.alloc (.cells us e)) := fun b hb => hal b (hI.fsize b hb)
  have hne : ∀ {i c}, (i, c) ∈ H → i ≠ d := fun hm e => hkey _ (e ▸ hm)
  have hown : ∀ b, Owned (fun i => if i = d then Value.pointer (some ⟨w.heap.size, 0, none⟩) else β i) ((d, .box cells) :: H) b → b = w.heap.size ∨ Owned β H b := by
    rintro b ⟨i, c, hm, hb⟩
    rcases List.mem_cons.1 hm with hm | hm
    · cases hm
      simp [blkOf] at hb
      exact .inl hb.symm
    · simp only [if_neg (hne hm)] at hb
      exact .inr ⟨i, c, hm, hb⟩
  refine ⟨rfl, ⟨rfl, fun _ => (by first | exact Nat.le_refl _ | exact Nat.le_succ _)⟩, rfl, by simp, fun b hb _ => hal b hb, fun _ h => h, fun _ h => .inl h, fun b hb => (hown b hb).elim (fun h => .inl (by omega)) .inr, fun t u h => (h.frame ha fun _ h => h).undef_change hd hβ, ?_, fun i hi => hβ i (by omega)⟩
  refine ⟨fun b hb => by have := hI.fsize b hb; simp; omega, fun i c hm => ?_, ?_, fun b ho hF => ?_, ?_⟩
  · rcases List.mem_cons.1 hm with hm | hm
    · cases hm
      exact ⟨w.heap.size, us, e, by simp, heap_alloc_new w _, hs, h1, hr _⟩
    · exact holds_change hd hβ (hne hm) (holds_frame ha (fun _ h => h) (fun b hb => hal b (hI.owned_lt ⟨i, c, hm, hb⟩)) (hI.holds i c hm))
  · simp only [List.map_cons, List.nodup_cons]
    refine ⟨fun hm => ?_, hI.keys⟩
    obtain ⟨x, hx, hxe⟩ := List.mem_map.1 hm
    exact hkey x.2 (by rw [← hxe]; exact hx)
  · rcases hown b ho with rfl | h
    · have := hI.fsize _ hF; omega
    · exact hI.apart b h hF
  · intro i c i' c' b hm hm' hb hb'
    rcases List.mem_cons.1 hm with hm | hm <;> rcases List.mem_cons.1 hm' with hm' | hm'
    · cases hm; cases hm'; rfl
    · cases hm
      simp [blkOf] at hb
      simp only [if_neg (hne hm')] at hb'
      have := hI.owned_lt ⟨i', c', hm', hb'⟩; omega
    · cases hm'
      simp [blkOf] at hb'
      simp only [if_neg (hne hm)] at hb
      have := hI.owned_lt ⟨i, c, hm, hb⟩; omega
    · simp only [if_neg (hne hm)] at hb
      simp only [if_neg (hne hm')] at hb'
      exact hI.disj i c i' c' b hm hm' hb hb'

/-! What the condition says of each operation, in the slots as they are in the end. -/
def OpOk (P : Program) (T : TT) (all : Array Oper) (H : Hp) (fe : Nat → AV) (o : Oper) : Prop :=
  ∃ d, o.dst = some d ∧ match o.guard with
  | none => stepS P T o (ev fe) H fun r => r = fe d
  | some (j, want) => ∃ g, (all[j]?).bind (·.dst) = some g ∧
      ((fe g = .v (.bool want) ∧ stepS P T o (ev fe) H fun r => r = fe d) ∨ (fe g = .v (.bool (!want)) ∧ fe d = .v undef) ∨ ((∃ vs, fe g = .v (.tuple vs)) ∧ fe d = .v undef))

def Lin (all : Array Oper) : List Oper → Prop
  | [] => True
  | o :: r => (∃ d, o.dst = some d ∧ ∀ o', o' ∈ r → o'.dst ≠ some d) ∧ (∀ t, t ∈ o.looksAt all → ∀ o', o' ∈ o :: r → o'.dst ≠ some t) ∧ Lin all r

theorem upd_id {f : Nat → AV} {d : Nat} {x : AV} (h : f d = x) : upd f d x = f := by
  funext t
  unfold upd
  cases hb : Nat.beq t d with
  | true => rw [Nat.eq_of_beq_eq_true hb, cond_true, h]
  | false => rfl

theorem upd_at (f : Nat → AV) (d : Nat) (x : AV) : upd f d x d = x := by simp [upd]
theorem upd_ne {f : Nat → AV} {d t : Nat} {x : AV} (h : t ≠ d) : upd f d x t = f t := by
  unfold upd
  cases hb : Nat.beq t d with
  | true => exact absurd (Nat.eq_of_beq_eq_true hb) h
  | false => rfl

theorem wpd_extract {n : Nat} {all : Array Oper} {K : ASt → Prop} : ∀ (l : List Oper) (st : ASt), Lin all l → wpd P T n all l st K →
    ∃ fe, (∀ t, (∀ o, o ∈ l → o.dst ≠ some t) → fe t = st.f t) ∧ K ⟨fe, st.H⟩ ∧ (∀ o, o ∈ l → ∀ d, o.dst = some d → d < n) ∧ ∀ o, o ∈ l → OpOk P T all st.H fe o := by
  intro l
  induction l with
  | nil => intro st _ h; exact ⟨st.f, fun _ _ => rfl, h, fun o ho => (List.not_mem_nil ho).elim, fun o ho => (List.not_mem_nil ho).elim⟩
  | cons o r ih =>
    intro st hlin h
    obtain ⟨⟨d, hd, hdr⟩, hlook, hlinr⟩ := hlin
    -- one step on, the slots agree with what they were where the operation looks
    have on : ∀ x, put n o.dst st x (fun st' => wpd P T n all r st' K) → ∃ fe, (∀ t, (∀ o', o' ∈ o :: r → o'.dst ≠ some t) → fe t = st.f t) ∧ K ⟨fe, st.H⟩ ∧ (∀ o', o' ∈ o :: r → ∀ d, o'.dst = some d → d < n) ∧ (∀ o', o' ∈ r → OpOk P T all st.H fe o') ∧ fe d = x ∧
        ∀ t, t ∈ o.looksAt all → fe t = st.f t := by
      intro x hx
      rw [hd, put_eq] at hx
      obtain ⟨hlt, hx⟩ := cond_prop hx
      have hlt : d < n := by simpa [Nat.blt_eq] using hlt
      obtain ⟨fe, h1, h2, h3, h4⟩ := ih ⟨upd st.f d x, st.H⟩ hlinr hx
      have hfd : fe d = x := by rw [h1 d hdr]; exact upd_at _ _ _
      have hout : ∀ t, (∀ o', o' ∈ o :: r → o'.dst ≠ some t) → fe t = st.f t := fun t ht => by
        rw [h1 t fun o' ho' => ht o' (List.mem_cons_of_mem _ ho')]
        exact upd_ne fun e => ht o (by simp) (by rw [hd, e])
      refine ⟨fe, hout, h2, fun o' ho' d' hd' => ?_, h4, hfd, fun t ht => hout t (hlook t ht)⟩
      rcases List.mem_cons.1 ho' with rfl | ho'
      · rw [hd] at hd'; cases hd'; exact hlt
      · exact h3 o' ho' d' hd'
    have ops : ∀ {fe : Nat → AV}, (∀ t, t ∈ o.looksAt all → fe t = st.f t) → ∀ x, x ∈ o.op.operands → ev st.f x = ev fe x := fun hfe x hx => by
      cases x with
      | tmp t =>
        refine (hfe t ?_).symm
        exact List.mem_append_left _ (List.mem_filterMap.2 ⟨.tmp t, by simpa using hx, rfl⟩)
      | _ => rfl
    unfold wpd at h
    rw [gd_eq] at h
    cases hg : o.guard with
    | none =>
      rw [hg] at h
      obtain ⟨x, hs, hp⟩ := h
      obtain ⟨fe, h1, h2, h3, h4, h5, h6⟩ := on x hp
      refine ⟨fe, h1, h2, h3, fun o' ho' => ?_⟩
      rcases List.mem_cons.1 ho' with rfl | ho'
      · refine ⟨d, hd, ?_⟩
        rw [hg, h5]
        exact stepS_congr (ops h6) hs
      · exact h4 o' ho'
    | some jw =>
      obtain ⟨j, want⟩ := jw
      rw [hg] at h
      simp only at h
      split at h
      · rename_i g hgd
        obtain ⟨_, h⟩ := cond_prop h
        have hgl : g ∈ o.looksAt all := by
          refine List.mem_append_right _ ?_
          rw [hg]
          simp [hgd]
        split at h
        · rename_i b hb
          by_cases hbw : b = want
          · have := h.y hbw
            rw [upd_id (by rw [hb, hbw])] at this
            obtain ⟨x, hs, hp⟩ := this
            obtain ⟨fe, h1, h2, h3, h4, h5, h6⟩ := on x hp
            refine ⟨fe, h1, h2, h3, fun o' ho' => ?_⟩
            rcases List.mem_cons.1 ho' with rfl | ho'
            · refine ⟨d, hd, ?_⟩
              rw [hg, h5]
              exact ⟨g, hgd, .inl ⟨by rw [h6 g hgl, hb, hbw], stepS_congr (ops h6) hs⟩⟩
            · exact h4 o' ho'
          · have hbn : b = !want := by cases b <;> cases want <;> first | rfl | exact absurd rfl hbw
            have := h.n hbn
            rw [upd_id (by rw [hb, hbn])] at this
            obtain ⟨fe, h1, h2, h3, h4, h5, h6⟩ := on _ this
            refine ⟨fe, h1, h2, h3, fun o' ho' => ?_⟩
            rcases List.mem_cons.1 ho' with rfl | ho'
            · refine ⟨d, hd, ?_⟩
              rw [hg]
              exact ⟨g, hgd, .inr (.inl ⟨by rw [h6 g hgl, hb, hbn], h5⟩)⟩
            · exact h4 o' ho'
        · rename_i vs hb
          obtain ⟨fe, h1, h2, h3, h4, h5, h6⟩ := on _ h
          refine ⟨fe, h1, h2, h3, fun o' ho' => ?_⟩
          rcases List.mem_cons.1 ho' with rfl | ho'
          · refine ⟨d, hd, ?_⟩
            rw [hg]
            exact ⟨g, hgd, .inr (.inr ⟨⟨vs, by rw [h6 g hgl, hb]⟩, h5⟩)⟩
          · exact h4 o' ho'
        · exact h.elim
      · exact h.elim

end
end Go.Cat
