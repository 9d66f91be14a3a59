/- Whole bodies: 'wpc', the condition of a code on the state, and that the machine agrees. No condition. -/
import Derived.Test.YtkbkfcehehofnaaCatL
namespace Go.Cat
set_option linter.all false
open Go.RowKit
variable [M : Mono]

/-- A test: what is owed where it says 'want', and where it does not. -/
def Br (b want : Bool) (yes no : Prop) : Prop :=
  match b, want with
  | true, true => yes
  | false, false => yes
  | true, false => no
  | false, true => no

theorem Br.y {b want : Bool} {yes no : Prop} (h : Br b want yes no) (hb : b = want) : yes := by subst hb; cases b <;> exact h
theorem Br.n {b want : Bool} {yes no : Prop} (h : Br b want yes no) (hb : b = !want) : no := by subst hb; cases want <;> exact h
theorem Br.tt {yes no : Prop} (h : yes) : Br true true yes no := h
theorem Br.ff {yes no : Prop} (h : yes) : Br false false yes no := h
theorem Br.tf {yes no : Prop} (h : no) : Br true false yes no := h
theorem Br.ft {yes no : Prop} (h : no) : Br false true yes no := h
theorem Br.yes {b want : Bool} {yes no : Prop} (hb : b = want) (h : yes) : Br b want yes no := by
  subst hb; cases b
  · exact Br.ff h
  · exact Br.tt h
theorem Br.no {b want : Bool} {yes no : Prop} (hb : b = !want) (h : no) : Br b want yes no := by
  subst hb; cases want
  · exact Br.tf h
  · exact Br.ft h
/-- Step by step with a program: the test is 'if'. -/
theorem Br.ite {b : Bool} {ρ : Type} {X Y : Option ρ} {r : ρ} {yes no : Prop} (h : (if b = true then X else Y) = some r) (y : b = true → X = some r → yes) (n : b = false → Y = some r → no) : Br b true yes no := by
  cases b with
  | true => exact y rfl (by simpa using h)
  | false => exact n rfl (by simpa using h)
theorem Br.itf {b : Bool} {ρ : Type} {X Y : Option ρ} {r : ρ} {yes no : Prop} (h : (if b = true then X else Y) = some r) (y : b = true → X = some r → no) (n : b = false → Y = some r → yes) : Br b false yes no := by
  cases b with
  | true => exact y rfl (by simpa using h)
  | false => exact n rfl (by simpa using h)

/-- The tree, seen. -/
def frc (x : AV) (k : AV → Prop) : Prop :=
  match x with
  | .v a => k (.v a)
  | .s a => k (.s a)
  | .p a => k (.p a)
  | .a a => k (.a a)
  | .t a => k (.t a)
  | .c a b c => k (.c a b c)
  | .b a b => k (.b a b)
  | .o a => k (.o a)
  | .e a b c d => k (.e a b c d)
  | .w a b c => k (.w a b c)
  | .m a => k (.m a)
  | .junk => k .junk

theorem frc_eq (x : AV) (k : AV → Prop) : frc x k = k x := by cases x <;> rfl

def put (n : Nat) (dst : Option Nat) (st : ASt) (r : AV) (K : ASt → Prop) : Prop :=
  match st with
  | ⟨f, H⟩ => match dst with
    | none => K ⟨f, H⟩
    | some d => bif Nat.blt d n then frc r fun r => K ⟨upd f d r, H⟩ else False

theorem put_eq (n : Nat) (dst : Option Nat) (st : ASt) (r : AV) (K : ASt → Prop) : put n dst st r K = match dst with
    | none => K st
    | some d => bif Nat.blt d n then K ⟨upd st.f d r, st.H⟩ else False := by
  cases st
  cases dst with
  | none => rfl
  | some d => simp only [put, frc_eq]

def gd (n : Nat) (all : Array Oper) (o : Oper) (st : ASt) (yes no : ASt → Prop) : Prop :=
  match st with
  | ⟨f, H⟩ => match o.guard with
    | none => yes ⟨f, H⟩
    | some (j, want) => match (all[j]?).bind (·.dst) with
      | some d => bif Nat.blt d n then
          match f d with
          | .v (.bool b) => Br b want (yes ⟨upd f d (.v (.bool want)), H⟩) (no ⟨upd f d (.v (.bool (!want))), H⟩)
          | .v (.tuple _) => no ⟨f, H⟩
          | _ => False
        else False
      | none => False

theorem gd_eq (n : Nat) (all : Array Oper) (o : Oper) (st : ASt) (yes no : ASt → Prop) : gd n all o st yes no = match o.guard with
  | none => yes st
  | some (j, want) => match (all[j]?).bind (·.dst) with
    | some d => bif Nat.blt d n then
        match st.f d with
        | .v (.bool b) => Br b want (yes ⟨upd st.f d (.v (.bool want)), st.H⟩) (no ⟨upd st.f d (.v (.bool (!want))), st.H⟩)
        | .v (.tuple _) => no st
        | _ => False
      else False
    | none => False := by cases st; rfl

def wpo (P : Program) (T : TT) (n : Nat) (all : Array Oper) : List Oper → ASt → (ASt → Prop) → Prop
  | [], st, K => K st
  | o :: os, st, K => gd n all o st (fun st => step P T o st fun r st' => put n o.dst st' r fun st'' => wpo P T n all os st'' K) fun st => put n o.dst st (.v undef) fun st' => wpo P T n all os st' K

structure Ctx where
  w : World
  F : Nat → Prop
  β : Nat → Value
  H : Hp
  n : Nat

def Rel (C : Ctx) (st : ASt) (a : Act) (w : World) : Prop :=
  ∃ F β, a.tmps.size = C.n ∧ a.defers = [] ∧ (∀ t, Rd w F β (st.f t) (a.tmps.getD t undef)) ∧ Ext C.w C.F C.β ⟨noSlots, C.H⟩ w F β ⟨noSlots, st.H⟩

def AWp (P : Program) (C : Ctx) (c : Code) (st : ASt) (Q : Exit → ASt → Prop) : Prop :=
  ∀ a w, Rel C st a w → c.wp P (fun e a' w' => ∃ st', Rel C st' a' w' ∧ Q e st') a w

structure LoopOk (P : Program) (n : Nat) (c : Code) (st : ASt) (Q : Exit → ASt → Prop) : Prop where
  h : ∀ C : Ctx, C.n = n → AWp P C (.loop c) st Q

structure DrawOk (P : Program) (n : Nat) (id : Nat) (ops : Array Oper) (st : ASt) (K : ASt → Prop) : Prop where
  h : ∀ C : Ctx, C.n = n → AWp P C (.region id ops true) st fun e st' => match e with
    | .normal => K st'
    | _ => False

def wpc (P : Program) (T : TT) (n : Nat) : Code → ASt → (Exit → ASt → Prop) → Prop
  | .skip, st, Q => Q .normal st
  | .label _, st, Q => Q .normal st
  | .region id ops draw, st, Q => bif draw then DrawOk P n id ops st (Q .normal) else wpo P T n ops ops.toList st (Q .normal)
  | .seq x y, st, Q => wpc P T n x st fun e s => match e with
    | .normal => wpc P T n y s Q
    | e => Q e s
  | .cond c x y, st, Q => match c with
    | .tmp d => bif Nat.blt d n then
        match st.f d with
        | .v (.bool b) => Br b true (wpc P T n x ⟨upd st.f d (.v (.bool true)), st.H⟩ Q) (wpc P T n y ⟨upd st.f d (.v (.bool false)), st.H⟩ Q)
        | _ => False
      else False
    | .const (.bool true) => wpc P T n x st Q
    | .const (.bool false) => wpc P T n y st Q
    | _ => False
  | .block id c, st, Q => wpc P T n c st fun e s => match e with
    | .exit i => bif Nat.beq i id then Q .normal s else Q (.exit i) s
    | e => Q e s
  | .loop c, st, Q => LoopOk P n c st Q
  | .exit id, st, Q => Q (.exit id) st
  | .ret, st, Q => Q .ret st
  | _, _, _ => False

section
variable {P : Program} {T : TT} {C : Ctx}

theorem Ext.slots {w : World} {F : Nat → Prop} {β : Nat → Value} {st : ASt} {w' : World} {F' : Nat → Prop} {β' : Nat → Value} {st' : ASt} (h : Ext w F β st w' F' β' st') (f : Nat → AV) :
    Ext w F β ⟨f, st.H⟩ w' F' β' ⟨noSlots, st'.H⟩ :=
  ⟨h.os, h.tape, h.output, h.size, h.block, h.mono, h.new, h.owned, fun _ _ _ => .junk, h.inv, h.lab⟩

theorem Rd.put {w : World} {F : Nat → Prop} {β : Nat → Value} {f : Nat → AV} {a : Act} {d : Nat} {r : AV} {v : Value} (hf : ∀ t, Rd w F β (f t) (a.tmps.getD t undef)) (hv : Rd w F β r v) (hd : d < a.tmps.size) :
    ∀ t, Rd w F β (upd f d r t) ((a.put (some d) v).tmps.getD t undef) := by
  intro t
  unfold upd
  cases hb : Nat.beq t d with
  | true =>
    obtain rfl := Nat.eq_of_beq_eq_true hb
    simpa [Act.put, hd] using hv
  | false =>
    have hne : d ≠ t := fun e => by rw [e, Nat.beq_refl] at hb; cases hb
    have := hf t
    simpa [Act.put, Array.getElem?_setIfInBounds_ne hne] using this

theorem upd_same {w : World} {F : Nat → Prop} {β : Nat → Value} {f : Nat → AV} {a : Act} {d : Nat} {b c : Bool} (hf : ∀ t, Rd w F β (f t) (a.tmps.getD t undef)) (hd : f d = .v (.bool b)) (hb : b = c) :
    ∀ t, Rd w F β (upd f d (.v (.bool c)) t) (a.tmps.getD t undef) := by
  intro t
  unfold upd
  cases ht : Nat.beq t d with
  | true =>
    obtain rfl := Nat.eq_of_beq_eq_true ht
    subst hb
    simpa [hd] using hf t
  | false => exact hf t

theorem put_rel {n : Nat} {dst : Option Nat} {st : ASt} {r : AV} {K : ASt → Prop} {a : Act} {w : World} {F : Nat → Prop} {β : Nat → Value} {v : Value} (hn : C.n = n) (hs : a.tmps.size = C.n) (hd : a.defers = [])
    (hf : ∀ t, Rd w F β (st.f t) (a.tmps.getD t undef)) (he : Ext C.w C.F C.β ⟨noSlots, C.H⟩ w F β ⟨noSlots, st.H⟩) (hv : Rd w F β r v) (h : put n dst st r K) : ∃ st', Rel C st' (a.put dst v) w ∧ K st' := by
  rw [put_eq] at h
  cases dst with
  | none => exact ⟨st, ⟨F, β, hs, hd, hf, he⟩, h⟩
  | some d =>
    obtain ⟨hlt, hk⟩ := cond_prop h
    have hlt : d < n := by simpa [Nat.blt_eq] using hlt
    exact ⟨⟨upd st.f d r, st.H⟩, ⟨F, β, by simpa [Act.put] using hs, hd, Rd.put hf hv (by omega), he⟩, hk⟩

/-- One operation, where it stands in its order. -/
theorem wpOp_one {n : Nat} {all : Array Oper} {o : Oper} {i : Nat} {st : ASt} {K : ASt → Prop} {a : Act} {w : World} {Q : Exit → Act → World → Prop} {N : Act → World → Prop} (hT : TOk P T) (hn : C.n = n) (ho : all[i]? = some o) (hr : Rel C st a w)
    (hN : ∀ st a w, Rel C st a w → K st → N a w)
    (h : gd n all o st (fun st => step P T o st fun r st' => put n o.dst st' r K) fun st => put n o.dst st (.v undef) K) : wpOp P all Q i N a w := by
  obtain ⟨F, β, hs, hd, hf, he⟩ := hr
  have hI : Inv w F β st.H := he.inv
  have run : ∀ st, st.H = st.H → (∀ t, Rd w F β (st.f t) (a.tmps.getD t undef)) → Inv w F β st.H → Ext C.w C.F C.β ⟨noSlots, C.H⟩ w F β ⟨noSlots, st.H⟩ → (step P T o st fun r st' => put n o.dst st' r K) → o.wp P a w N Q := by
    intro st _ hf hI he h
    unfold Oper.wp
    rcases step_sound hT hI hf h with ⟨v, w', hrun, r, st', F', β', hk, hv, hx⟩ | ⟨w', hrun, r, st', F', β', hk, hv, hx⟩ | ⟨g, vs, hrun, hc⟩
    · rw [hrun, Oper.upon_value]
      obtain ⟨st'', h1, h2⟩ := put_rel hn hs hd (fun t => hx.keep t _ (hf t)) (he.trans (hx.slots noSlots)) hv hk
      exact hN _ _ _ h1 h2
    · rw [hrun, Oper.upon_skip]
      obtain ⟨st'', h1, h2⟩ := put_rel hn hs hd (fun t => hx.keep t _ (hf t)) (he.trans (hx.slots noSlots)) hv hk
      exact hN _ _ _ h1 h2
    · rw [hrun, Oper.upon_enter]
      refine hc.mono ?_
      rintro e w' ⟨v, rfl, r, st', F', β', hk, hv, hx⟩
      obtain ⟨st'', h1, h2⟩ := put_rel hn hs hd (fun t => hx.keep t _ (hf t)) (he.trans (hx.slots noSlots)) hv hk
      exact hN _ _ _ h1 h2
  have skip : ∀ st : ASt, (∀ t, Rd w F β (st.f t) (a.tmps.getD t undef)) → Ext C.w C.F C.β ⟨noSlots, C.H⟩ w F β ⟨noSlots, st.H⟩ → put n o.dst st (.v undef) K → N (a.put o.dst undef) w := by
    intro st hf he h
    obtain ⟨st'', h1, h2⟩ := put_rel hn hs hd hf he (.i (.v (.inr rfl)) : Rd w F β (.v undef) undef) h
    exact hN _ _ _ h1 h2
  unfold wpOp
  simp only [ho]
  rw [gd_eq] at h
  cases hg : o.guard with
  | none =>
    rw [hg] at h
    have hw : Region.wanted o (yielded all a.tmps) = true := by simp [Region.wanted, hg]
    rw [if_pos hw]
    exact .inl (run st rfl hf hI he h)
  | some jw =>
    obtain ⟨j, want⟩ := jw
    rw [hg] at h
    simp only at h
    split at h
    · rename_i d hdd
      obtain ⟨hlt, h⟩ := cond_prop h
      have hlt : d < a.tmps.size := by rw [hs, hn]; simpa [Nat.blt_eq] using hlt
      have hfd := hf d
      have hy : ∀ v, a.tmps.getD d undef = v → yielded all a.tmps j = match v with | .bool b => some b | _ => none := by
        intro v hv
        have h2 : a.tmps[d]? = some v := by
          rw [← hv]; simp [hlt]
        unfold yielded
        rw [hdd, Option.bind_some, h2]
        cases v <;> rfl
      split at h
      · rename_i b hb
        rw [hb] at hfd
        have hv := hfd.v_inv
        have hyb := hy _ hv
        simp only at hyb
        by_cases hbw : b = want
        · have hw : Region.wanted o (yielded all a.tmps) = true := by simp [Region.wanted, hg, hyb, hbw]
          rw [if_pos hw]
          exact .inl (run ⟨upd st.f d (.v (.bool want)), st.H⟩ rfl (upd_same hf hb hbw) hI he (h.y hbw))
        · have hbn : b = !want := by cases b <;> cases want <;> first | rfl | exact absurd rfl hbw
          have hw : ¬ Region.wanted o (yielded all a.tmps) = true := by simp [Region.wanted, hg, hyb, hbw]
          rw [if_neg hw]
          exact skip ⟨upd st.f d (.v (.bool !want)), st.H⟩ (upd_same hf hb hbn) he (h.n hbn)
      · rename_i vs hb
        rw [hb] at hfd
        have hv := hfd.v_inv
        have hyb := hy _ hv
        simp only at hyb
        have hw : ¬ Region.wanted o (yielded all a.tmps) = true := by simp [Region.wanted, hg, hyb]
        rw [if_neg hw]
        exact skip st hf he h
      · exact h.elim
    · exact h.elim

theorem wpo_sound {n : Nat} {all : Array Oper} {K : ASt → Prop} {Q : Exit → Act → World → Prop} (hT : TOk P T) (hn : C.n = n) (hQ : ∀ st a w, Rel C st a w → K st → Q .normal a w) :
    ∀ (l : List Oper) (i : Nat) (st : ASt) (a : Act) (w : World), (∀ k, k < l.length → all[i + k]? = l[k]?) → Rel C st a w → wpo P T n all l st K → wpOps P all Q (List.range' i l.length) a w := by
  intro l
  induction l with
  | nil => intro i st a w _ hr h; exact hQ _ _ _ hr h
  | cons o os ih =>
    intro i st a w hall hr h
    have ho : all[i]? = some o := by simpa using hall 0 (by simp)
    rw [List.length_cons, List.range'_succ, wpOps_cons]
    refine wpOp_one (K := fun st => wpo P T n all os st K) hT hn ho hr (fun st a w hr hk => ?_) h
    exact ih (i + 1) st a w (fun k hk => by have := hall (k + 1) (by simp; omega); rw [show i + 1 + k = i + (k + 1) by omega]; simpa using this) hr hk

theorem wpc_sound {n : Nat} (hT : TOk P T) (hn : C.n = n) : ∀ (c : Code) (st : ASt) (Q : Exit → ASt → Prop), wpc P T n c st Q → AWp P C c st Q := by
  intro c
  induction c with
  | skip => intro st Q h a w hr; exact wp_skip ⟨st, hr, h⟩
  | label l => intro st Q h a w hr; exact wp_label ⟨st, hr, h⟩
  | region id ops draw =>
    intro st Q h a w hr
    cases draw with
    | true =>
      refine wp_mono ((show DrawOk P n id ops st (Q .normal) from h).h C hn a w hr) ?_
      rintro e a' w' ⟨st', hr', hq⟩
      cases e <;> first | exact ⟨st', hr', hq⟩ | exact hq.elim
    | false =>
      refine wp_region ?_
      have := wpo_sound (C := C) (Q := fun e a' w' => ∃ st', Rel C st' a' w' ∧ Q e st') hT hn (fun st a w hr hk => ⟨st, hr, hk⟩) ops.toList 0 st a w (fun k hk => by simp) hr h
      simpa [List.range_eq_range'] using this
  | seq x y ihx ihy =>
    intro st Q h a w hr
    refine wp_seq (wp_mono (ihx st _ h a w hr) ?_)
    rintro e a' w' ⟨st', hr', hq⟩
    cases e <;> first | exact ihy st' Q hq a' w' hr' | exact ⟨st', hr', hq⟩
  | cond c x y ihx ihy =>
    intro st Q h a w hr
    cases c with
    | tmp d =>
      obtain ⟨hlt, h⟩ := cond_prop h
      split at h
      · rename_i b hb
        obtain ⟨F, β, hs, hd, hf, he⟩ := hr
        have hfd := hf d
        rw [hb] at hfd
        have hv : a.eval (.tmp d) = .bool b := hfd.v_inv
        refine wp_cond_split hv (fun ht => ?_) fun ht => ?_
        · exact ihx _ _ (h.y ht) a w ⟨F, β, hs, hd, upd_same hf hb ht, he⟩
        · exact ihy _ _ (h.n (by simpa using ht)) a w ⟨F, β, hs, hd, upd_same hf hb ht, he⟩
      · exact h.elim
    | const v =>
      cases v <;> first | exact h.elim | skip
      rename_i b
      cases b with
      | true => exact wp_cond_true rfl (ihx _ _ h a w hr)
      | false => exact wp_cond_false rfl (ihy _ _ h a w hr)
    | global g => exact h.elim
    | func g => exact h.elim
  | block id c ih =>
    intro st Q h a w hr
    refine wp_block (wp_mono (ih st _ h a w hr) ?_)
    rintro e a' w' ⟨st', hr', hq⟩
    cases e with
    | exit i =>
      by_cases hi : i = id
      · subst hi
        simp only [Nat.beq_refl, cond_true] at hq
        simp only [Exit.inBlock, if_true]
        exact ⟨st', hr', hq⟩
      · have : Nat.beq i id = false := by cases hb : Nat.beq i id; rfl; exact absurd (Nat.eq_of_beq_eq_true hb) hi
        simp only [this, cond_false] at hq
        simp only [Exit.inBlock, if_neg hi]
        exact ⟨st', hr', hq⟩
    | _ => exact ⟨st', hr', hq⟩
  | loop c ih => intro st Q h a w hr; exact (show LoopOk P n c st Q from h).h C hn a w hr
  | exit id => intro st Q h a w hr; exact wp_exit ⟨st, hr, h⟩
  | ret => intro st Q h a w hr; exact wp_ret ⟨st, hr, h⟩
  | scope c ih => intro st Q h; exact h.elim
  | goto l => intro st Q h; exact h.elim
  | refuse s => intro st Q h; exact h.elim
  | rangeFunc f ps x y ihx ihy => intro st Q h; exact h.elim

end
end Go.Cat
