/- Contracts out of bodies; calls by contract; loops. No condition. -/
import Derived.Test.YtkbkfcehehofnaaCatM
namespace Go.Cat
set_option linter.all false
open Go.RowKit
variable [M : Mono]

def resL (T : TT) : List ResultVar → ASt → (List AV → Prop) → Prop
  | [], _, k => k []
  | .tmp t :: r, st, k => resL T r st fun vs => k (st.f t :: vs)
  | .cell t ty :: r, st, k => match st.f t with
    | .b id off => sLoad T ty (.b id off) st.H fun x => resL T r st fun vs => k (x :: vs)
    | _ => False

def resK (T : TT) (rs : List ResultVar) (st : ASt) (k : AV → Prop) : Prop :=
  resL T rs st fun vs => match vs with
    | [x] => k x
    | vs => k (.t vs)

def fpost (T : TT) (rs : List ResultVar) (R : AV → ASt → Prop) : Exit → ASt → Prop
  | .normal, st => resK T rs st fun x => R x st
  | .ret, st => resK T rs st fun x => R x st
  | _, _ => False

def initf (args : List AV) : Nat → AV := fun t => args.getD t (.v undef)

/-- With all memory of the call's own left as it is, what reads as x reads as r. -/
def Fz (H : Hp) (x r : AV) : Prop := ∀ (w : World) (F : Nat → Prop) (β : Nat → Value) (u : Value), Inv w F β H → Rd w F β x u → RdI w (fun b => F b ∨ Owned β H b) r u

section
variable {P : Program} {T : TT} {w : World} {F : Nat → Prop} {β : Nat → Value}

theorem resL_sound (hT : TOk P T) {tmps : Array Value} : ∀ (rs : List ResultVar) {st : ASt} {k : List AV → Prop}, Inv w F β st.H → (∀ t, Rd w F β (st.f t) (tmps.getD t undef)) → resL T rs st k →
    ∃ vs xs, (rs.mapM fun (r : ResultVar) => (match r with
      | .tmp t => pure (tmps.getD t undef)
      | .cell a t => do loadVar t (← asAddr (tmps.getD a undef)) : Sem Value)).run P w = .ok vs w ∧ k xs ∧ vs.length = xs.length ∧ ∀ i, i < xs.length → Rd w F β (xs.getD i .junk) (vs.getD i undef)
  | [], st, k, _, _, h => ⟨[], [], by simp, h, rfl, fun i hi => by simp at hi⟩
  | .tmp t :: r, st, k, hI, hf, h => by
    obtain ⟨vs, xs, hr, hk, hl, hv⟩ := resL_sound hT r hI hf h
    refine ⟨tmps.getD t undef :: vs, st.f t :: xs, by rw [List.mapM_cons]; simp only [Sem.run_bind, Sem.run_pure, Result.andThen_ok, hr], hk, by simp [hl], fun i hi => ?_⟩
    cases i with
    | zero => exact hf t
    | succ i => exact hv i (by simpa using hi)
  | .cell t ty :: r, st, k, hI, hf, h => by
    simp only [resL] at h
    split at h
    · rename_i id off hid
      have hfd := hf t
      rw [hid] at hfd
      obtain ⟨v, x, hrun, h, hx⟩ := sLoad_same (P := P) hT hI hfd h
      obtain ⟨blk, hβ, hv⟩ := hfd.b_inv
      have hrun' : (loadVar ty ⟨blk, off, none⟩).run P w = .ok v w := by
        rw [hv] at hrun
        simpa [Instr.loadAt, Instr.sureAddr] using hrun
      obtain ⟨vs, xs, hr, hk, hl, hv'⟩ := resL_sound hT r hI hf h
      refine ⟨v :: vs, x :: xs, ?_, hk, by simp [hl], fun i hi => ?_⟩
      · have e : (do loadVar ty (← asAddr (tmps.getD t undef)) : Sem Value).run P w = .ok v w := by
          rw [hv]; simpa [asAddr] using hrun'
        rw [List.mapM_cons, Sem.run_bind]
        erw [e]
        simp only [Result.andThen_ok, Sem.run_bind, hr, Sem.run_pure]
      · cases i with
        | zero => exact hx
        | succ i => exact hv' i (by simpa using hi)
    · exact h.elim


theorem resK_sound (hT : TOk P T) {fn : Func} {tmps : Array Value} {st : ASt} {k : AV → Prop} (hI : Inv w F β st.H) (hf : ∀ t, Rd w F β (st.f t) (tmps.getD t undef)) (h : resK T fn.results.toList st k) :
    ∃ v x, (results fn tmps).run P w = .ok v w ∧ k x ∧ Rd w F β x v := by
  obtain ⟨vs, xs, hr, hk, hl, hv⟩ := resL_sound hT fn.results.toList hI hf h
  have hm : (fn.results.mapM fun (r : ResultVar) => (match r with
      | .tmp t => pure (tmps.getD t undef)
      | .cell a t => do loadVar t (← asAddr (tmps.getD a undef)) : Sem Value)).run P w = .ok vs.toArray w := by
    rw [Array.mapM_eq_mapM_toList]
    simp only [Sem.run_map, hr, Result.andThen_ok]
  have hres : (results fn tmps).run P w = .ok (if h : vs.toArray.size = 1 then vs.toArray[0] else .tuple vs.toArray) w := by
    unfold results
    rw [Sem.run_bind]
    exact congrArg (fun z : Result (Array Value) => z.andThen fun (a : Array Value) w' => Sem.run P (pure (if h : a.size = 1 then a[0] else .tuple a)) w') hm
  split at hk
  · rename_i x
    obtain ⟨v, rfl⟩ := List.length_eq_one_iff.1 (by simpa using hl : vs.length = 1)
    exact ⟨v, x, by rw [hres]; rfl, hk, by simpa using hv 0 (by simp)⟩
  · rename_i hne
    have hsz : ¬ vs.toArray.size = 1 := fun h1 => by
      have : xs.length = 1 := by simpa [hl] using h1
      match xs, this with
      | [x], _ => exact hne x rfl
    refine ⟨.tuple vs.toArray, .t xs, by rw [hres, dif_neg hsz], hk, .t (by simpa using hl) fun i hi => ?_⟩
    simpa [List.getD] using hv i hi

theorem init_rd {args : List AV} {vs : Array Value} {n : Nat} (hs : vs.size = args.length) (hv : ∀ i, i < args.length → Rd w F β (args.getD i .junk) (vs.getD i undef)) :
    ∀ t, Rd w F β (initf args t) ((vs ++ Array.replicate (n - vs.size) undef).getD t undef) := by
  intro t
  unfold initf
  by_cases ht : t < args.length
  · have h1 := hv t ht
    have e1 : args.getD t (.v undef) = args.getD t .junk := by simp [List.getD, ht]
    have e2 : (vs ++ Array.replicate (n - vs.size) undef).getD t undef = vs.getD t undef := by
      simp [Array.getElem?_append, hs, ht]
    rw [e1, e2]; exact h1
  · have e1 : args.getD t (.v undef) = .v undef := by simp [List.getD, ht]
    have e2 : (vs ++ Array.replicate (n - vs.size) undef).getD t undef = undef := by
      simp only [Array.getD_eq_getD_getElem?, Array.getElem?_append, hs, ht, if_false, Array.getElem?_replicate]
      split <;> rfl
    rw [e1, e2]; exact .i (.v (.inr rfl))

/-- A body meets its condition: the call does. -/
theorem calls_of_wpc {g n : Nat} {fn : Func} {c : Code} {args : List AV} {H : Hp} {R : AV → ASt → Prop} (hT : TOk P T) (hfn : P.funcs[g]? = some fn) (hb : fn.body = some c) (hn : fn.ntmps = n) (hle : args.length ≤ n)
    (h : wpc P T n c ⟨initf args, H⟩ (fpost T fn.results.toList R)) {vs : Array Value} (hI : Inv w F β H) (hs : vs.size = args.length) (hv : ∀ i, i < args.length → Rd w F β (args.getD i .junk) (vs.getD i undef)) :
    Calls P g vs w fun e w' => ∃ v, e = .returned v ∧ ∃ x st F' β', R x st ∧ Rd w' F' β' x v ∧ Ext w F β ⟨noSlots, H⟩ w' F' β' ⟨noSlots, st.H⟩ := by
  refine calls_of_wp hfn hb ?_
  let C : Ctx := ⟨w, F, β, H, n⟩
  have hr : Rel C ⟨initf args, H⟩ { tmps := vs ++ Array.replicate (fn.ntmps - vs.size) undef, defers := [] } w :=
    ⟨F, β, by simp [C, hn]; omega, rfl, init_rd hs hv, Ext.refl hI⟩
  refine wp_mono (wpc_sound hT (C := C) rfl c _ _ h _ w hr) ?_
  rintro e a' w' ⟨st, ⟨F', β', _, hd, hf, he⟩, hq⟩
  cases e with
  | normal =>
    obtain ⟨v, x, hrun, hk, hx⟩ := resK_sound (P := P) (st := st) hT he.inv hf hq
    exact ⟨hd, v, hrun, v, rfl, x, st, F', β', hk, hx, he⟩
  | ret =>
    obtain ⟨v, x, hrun, hk, hx⟩ := resK_sound (P := P) (st := st) hT he.inv hf hq
    exact ⟨hd, v, hrun, v, rfl, x, st, F', β', hk, hx, he⟩
  | exit id => exact hq.elim
  | goto l => exact hq.elim
  | panic ch => exact hq.elim
  | outgrown => exact hq.elim

theorem pure_of_body {g n : Nat} {fn : Func} {c : Code} {args : List AV} {r : AV} (hT : TOk P T) (hfn : P.funcs[g]? = some fn) (hnm : (fn.name == "runtime.NumGoroutine") = false) (hb : fn.body = some c) (hn : fn.ntmps = n) (hle : args.length ≤ n)
    (h : wpc P T n c ⟨initf args, []⟩ (fpost T fn.results.toList fun x st => Fz st.H x r)) : Pure P g args r := by
  refine ⟨⟨fn, c, hfn, hnm, hb⟩, fun w F β vs hI hs hv => ?_⟩
  refine (calls_of_wpc hT hfn hb hn hle h hI hs hv).mono ?_
  rintro e w' ⟨v, rfl, x, st, F', β', hz, hx, he⟩
  have hno : ∀ b, ¬ Owned β ([] : Hp) b := by rintro b ⟨id, c, hm, _⟩; cases hm
  refine ⟨v, rfl, ⟨he.os, he.tape, he.output, he.size, fun b hb' => he.block b hb' (hno b)⟩, ?_⟩
  refine (hz w' F' β' v he.inv hx).frame (fun _ _ => rfl) fun b hb' => ?_
  rcases hb' with hb' | hb'
  · rcases he.new b hb' with h1 | h1 | h1
    · exact .inl h1
    · exact .inr ⟨h1, he.inv.fsize b hb'⟩
    · exact (hno b h1).elim
  · rcases he.owned b hb' with h1 | h1
    · exact .inr ⟨h1, he.inv.owned_lt hb'⟩
    · exact (hno b h1).elim

/-! What the memory of the call's own leaves. -/
theorem Fz.imm {H : Hp} {x : AV} (h : imm1 x = true) : Fz H x x := fun _ _ _ _ _ hr => (imm1_rd h hr).frame (fun _ _ => rfl) fun _ h => .inl h
theorem Fz.v {H : Hp} {x : Value} : Fz H (.v x) (.v x) := Fz.imm rfl
theorem Fz.s {H : Hp} {x : List (List AV)} : Fz H (.s x) (.s x) := Fz.imm rfl
theorem Fz.nil {H : Hp} : Fz H (.v (.slice none 0 0)) (.s []) := fun _ _ _ _ _ hr => by rw [hr.v_inv]; exact .s0

theorem Fz.o {H : Hp} {id E K : Nat} {rows : List (List AV)} (h : findC id H = some (.own E K rows)) : Fz H (.o id) (.s rows) := fun _ _ _ _ hI hr => own_rd hI (findC_mem h) hr

inductive FzL (H : Hp) : List AV → List AV → Prop where
  | nil : FzL H [] []
  | cons {x y : AV} {xs ys : List AV} (h : Fz H x y) (t : FzL H xs ys) : FzL H (x :: xs) (y :: ys)

theorem FzL.spec {H : Hp} {xs ys : List AV} (h : FzL H xs ys) : xs.length = ys.length ∧ ∀ i, i < xs.length → Fz H (xs.getD i .junk) (ys.getD i .junk) := by
  induction h with
  | nil => exact ⟨rfl, fun i hi => by simp at hi⟩
  | cons h t ih =>
    refine ⟨by simp [ih.1], fun i hi => ?_⟩
    cases i with
    | zero => simpa using h
    | succ i => simpa using ih.2 i (by simpa using hi)

theorem Fz.a {H : Hp} {xs ys : List AV} (h : FzL H xs ys) : Fz H (.a xs) (.a ys) := fun _ _ _ _ hI hr => by
  obtain ⟨us, rfl, hs, h1, hu⟩ := hr.a_inv
  obtain ⟨hl, hz⟩ := h.spec
  exact .a (by omega) (fun i hi => h1 i (by omega)) fun i hi => hz i (by omega) _ _ _ _ hI (hu i (by omega))

theorem Fz.t {H : Hp} {xs ys : List AV} (h : FzL H xs ys) : Fz H (.t xs) (.t ys) := fun _ _ _ _ hI hr => by
  obtain ⟨us, rfl, hs, hu⟩ := hr.t_inv
  obtain ⟨hl, hz⟩ := h.spec
  exact .t (by omega) fun i hi => hz i (by omega) _ _ _ _ hI (hu i (by omega))


/-! Calls. -/
theorem Inv.nil {H : Hp} (h : Inv w F β H) : Inv w F β [] :=
  ⟨h.fsize, fun _ _ hm => (List.not_mem_nil hm).elim, List.nodup_nil, fun _ ⟨_, _, hm, _⟩ => (List.not_mem_nil hm).elim, fun _ _ _ _ _ hm => (List.not_mem_nil hm).elim⟩

/-- A tree that reads as it does without the call's own memory: what a callee may be handed for it. -/
def Le (x y : AV) : Prop := ∀ (w : World) (F : Nat → Prop) (β : Nat → Value) (u : Value), Rd w F β x u → Rd w F β y u

theorem Le.refl (x : AV) : Le x x := fun _ _ _ _ h => h
theorem Le.nil : Le (.v (.slice none 0 0)) (.s []) := fun _ _ _ _ h => by rw [h.v_inv]; exact .i .s0

inductive LeL : List AV → List AV → Prop where
  | nil : LeL [] []
  | cons {x y : AV} {xs ys : List AV} (h : Le x y) (t : LeL xs ys) : LeL (x :: xs) (y :: ys)

theorem LeL.refl : ∀ (xs : List AV), LeL xs xs
  | [] => .nil
  | x :: xs => .cons (Le.refl x) (LeL.refl xs)

theorem LeL.spec {xs ys : List AV} (h : LeL xs ys) : xs.length = ys.length ∧ ∀ i, i < xs.length → Le (xs.getD i .junk) (ys.getD i .junk) := by
  induction h with
  | nil => exact ⟨rfl, fun i hi => by simp at hi⟩
  | cons h t ih =>
    refine ⟨by simp [ih.1], fun i hi => ?_⟩
    cases i with
    | zero => simpa using h
    | succ i => simpa using ih.2 i (by simpa using hi)

theorem Le.a {xs ys : List AV} (h : LeL xs ys) : Le (.a xs) (.a ys) := fun _ _ _ _ hr => by
  obtain ⟨us, rfl, hs, h1, hu⟩ := hr.a_inv
  obtain ⟨hl, hz⟩ := h.spec
  exact .a (by omega) (fun i hi => h1 i (by omega)) fun i hi => hz i (by omega) _ _ _ _ (hu i (by omega))

/-- A call by a contract without memory of one's own. -/
theorem SPure.of_pure {g : FuncId} {xs ys : List AV} {H : Hp} {r : AV} (h : Pure P g ys r) (hle : LeL xs ys) : SPure P g xs H r := by
  obtain ⟨hl, hz⟩ := hle.spec
  exact ⟨h.1, fun w F β vs hI hs hv => h.2 w F β vs hI.nil (by omega) fun i hi => hz i (by omega) _ _ _ _ (hv i (by omega))⟩

theorem CallOk.pure {g : FuncId} {xs : List AV} {st : ASt} {r : AV} {k : AV → ASt → Prop} (h : SPure P g xs st.H r) (hk : k r st) : CallOk P g xs st k := by
  refine ⟨h.1, fun w F β vs hI hs hv => (h.2 w F β vs hI hs hv).mono ?_⟩
  rintro e w' ⟨v, rfl, hb, hr⟩
  exact ⟨v, rfl, r, st, _, _, hk, .i hr, ext_quiet hI hb⟩

/-- The everyday call: 'c' the contract. -/
theorem CallOk.call {g : FuncId} {xs ys : List AV} {st : ASt} {r : AV} {k : AV → ASt → Prop} (h : Pure P g ys r) (hle : LeL xs ys) (hk : k r st) : CallOk P g xs st k := .pure (.of_pure h hle) hk

/-- A result that bears no memory at all. -/
def plain0 : AV → Bool
  | .v _ => true
  | _ => false
def plain1 : AV → Bool
  | .a cs | .t cs => cs.all plain0
  | x => plain0 x

theorem plain0_rd {w' : World} {F' : Nat → Prop} {x : AV} {u : Value} (hx : plain0 x = true) (h : RdI w F x u) : RdI w' F' x u := by
  cases x <;> first | (cases hx; done) | (cases h; exact .v (by assumption))

theorem plain1_rd {w' : World} {F' : Nat → Prop} {x : AV} {u : Value} (hx : plain1 x = true) (h : RdI w F x u) : RdI w' F' x u := by
  have get : ∀ (l : List AV) (i : Nat), l.all plain0 = true → i < l.length → plain0 (l.getD i .junk) = true := fun l i hl hi =>
    List.all_eq_true.1 hl (l.getD i .junk) (by rw [List.getD_eq_getElem?_getD, List.getElem?_eq_getElem hi]; exact List.getElem_mem _)
  cases x with
  | a cs => cases h with | a hs h1 h => exact .a hs h1 fun i hi => plain0_rd (get cs i hx hi) (h i hi)
  | t cs => cases h with | t hs h => exact .t hs fun i hi => plain0_rd (get cs i hx hi) (h i hi)
  | _ => exact plain0_rd hx h

/-- What the callee is handed for slices of one's own: their rows; it hands back what bears no memory. -/
theorem SPure.borrow {g : FuncId} {xs ys : List AV} {H : Hp} {r : AV} (h : Pure P g ys r) (hz : FzL H xs ys) (hr : plain1 r = true) : SPure P g xs H r := by
  obtain ⟨hl, hz⟩ := hz.spec
  refine ⟨h.1, fun w F β vs hI hs hv => ?_⟩
  have hI' : Inv w (fun b => F b ∨ Owned β H b) β [] :=
    ⟨fun b hb => hb.elim (hI.fsize b) hI.owned_lt, fun _ _ hm => (List.not_mem_nil hm).elim, List.nodup_nil, fun _ ⟨_, _, hm, _⟩ => (List.not_mem_nil hm).elim, fun _ _ _ _ _ hm => (List.not_mem_nil hm).elim⟩
  refine (h.2 w _ β vs hI' (by omega) fun i hi => .i (hz i (by omega) _ _ _ _ hI (hv i (by omega)))).mono ?_
  rintro e w' ⟨v, rfl, hb, hx⟩
  exact ⟨v, rfl, hb, plain1_rd hr hx⟩

theorem CallOk.borrow {g : FuncId} {xs ys : List AV} {st : ASt} {r : AV} {k : AV → ASt → Prop} (h : Pure P g ys r) (hz : FzL st.H xs ys) (hr : plain1 r = true) (hk : k r st) : CallOk P g xs st k := .pure (.borrow h hz hr) hk

/-! Loops. -/
def mix (ws : List Nat) (f : Nat → AV) : Nat → AV := fun t => bif ws.elem t then .junk else f t

def sets : List (Nat × AV) → (Nat → AV) → Nat → AV
  | [], f => f
  | (d, x) :: r, f => upd (sets r f) d x

/-- The slots agree but for those of ws; those named hold what is named. -/
structure Fits (ws : List Nat) (vals : List (Nat × AV)) (f g : Nat → AV) : Prop where
  out : ∀ t, ws.elem t = false → g t = f t
  named : ∀ p, p ∈ vals → g p.1 = p.2

theorem fits_rd {ws : List Nat} {vals : List (Nat × AV)} {f g : Nat → AV} {a : Act} (h : Fits ws vals f g) (hg : ∀ t, Rd w F β (g t) (a.tmps.getD t undef)) : ∀ t, Rd w F β (sets vals (mix ws f) t) (a.tmps.getD t undef) := by
  obtain ⟨hout, hnamed⟩ := h
  induction vals with
  | nil =>
    intro t
    simp only [sets, mix]
    cases ht : ws.elem t with
    | true => exact .junk
    | false => rw [cond_false, ← hout t ht]; exact hg t
  | cons p r ih =>
    obtain ⟨d, x⟩ := p
    intro t
    simp only [sets, upd]
    cases ht : Nat.beq t d with
    | true =>
      obtain rfl := Nat.eq_of_beq_eq_true ht
      have := hnamed (t, x) (by simp)
      simp only at this
      rw [cond_true, ← this]; exact hg t
    | false => exact ih (fun p hp => hnamed p (List.mem_cons_of_mem _ hp)) t

theorem loop_rule {n : Nat} {c : Code} {st : ASt} {Q : Exit → ASt → Prop} {σ : Type} (hT : TOk P T) (ws : List Nat) (vals : σ → List (Nat × AV)) (H : σ → Hp) (inv : σ → Prop) (μ : σ → Nat) (s0 : σ)
    (h0 : inv s0) (hf0 : Fits ws (vals s0) st.f st.f) (hH0 : st.H = H s0)
    (round : ∀ s, inv s → wpc P T n c ⟨sets (vals s) (mix ws st.f), H s⟩ fun e st' => match e with
      | .normal => ∃ s', inv s' ∧ μ s' < μ s ∧ Fits ws (vals s') st.f st'.f ∧ st'.H = H s'
      | e => Q e st') : LoopOk P n c st Q := by
  refine ⟨fun C hn a w hr => ?_⟩
  refine wp_loop (fun a w => ∃ s, inv s ∧ Rel C ⟨sets (vals s) (mix ws st.f), H s⟩ a w) (fun a w => by
    classical exact if h : ∃ s, inv s ∧ Rel C ⟨sets (vals s) (mix ws st.f), H s⟩ a w ∧ ∀ s', inv s' → Rel C ⟨sets (vals s') (mix ws st.f), H s'⟩ a w → μ s ≤ μ s' then μ h.choose else 0) ?_ ?_
  · obtain ⟨F, β, hs, hd, hf, he⟩ := hr
    exact ⟨s0, h0, F, β, hs, hd, fits_rd hf0 hf, hH0 ▸ he⟩
  · intro a w hex
    -- the least of the measures
    have hleast : ∃ s, inv s ∧ Rel C ⟨sets (vals s) (mix ws st.f), H s⟩ a w ∧ ∀ s', inv s' → Rel C ⟨sets (vals s') (mix ws st.f), H s'⟩ a w → μ s ≤ μ s' := by
      obtain ⟨s, hi, hrel⟩ := hex
      have key : ∀ m s, μ s = m → inv s → Rel C ⟨sets (vals s) (mix ws st.f), H s⟩ a w → ∃ s, inv s ∧ Rel C ⟨sets (vals s) (mix ws st.f), H s⟩ a w ∧ ∀ s', inv s' → Rel C ⟨sets (vals s') (mix ws st.f), H s'⟩ a w → μ s ≤ μ s' := by
        intro m
        induction m using Nat.strongRecOn with
        | _ m ih =>
          intro s hm hi hrel
          by_cases hsm : ∃ s', inv s' ∧ Rel C ⟨sets (vals s') (mix ws st.f), H s'⟩ a w ∧ μ s' < m
          · obtain ⟨s', hi', hr', hlt⟩ := hsm
            exact ih (μ s') hlt s' rfl hi' hr'
          · refine ⟨s, hi, hrel, fun s' hi' hr' => ?_⟩
            rcases Nat.lt_or_ge (μ s') (μ s) with h | h
            · exact absurd ⟨s', hi', hr', hm ▸ h⟩ hsm
            · exact h
      exact key _ s rfl hi hrel
    obtain ⟨hi, hrel, hmin⟩ := hleast.choose_spec
    refine wp_mono (wpc_sound hT hn c _ _ (round hleast.choose hi) a w hrel) ?_
    rintro e a' w' ⟨st', hr', hq⟩
    cases e with
    | normal =>
      obtain ⟨s', hi', hlt, hfit, hH⟩ := hq
      obtain ⟨F, β, hs, hd, hf, he⟩ := hr'
      have hrel' : Rel C ⟨sets (vals s') (mix ws st.f), H s'⟩ a' w' := ⟨F, β, hs, hd, fits_rd hfit hf, hH ▸ he⟩
      refine ⟨⟨s', hi', hrel'⟩, ?_⟩
      rw [dif_pos hleast]
      split
      · rename_i h'
        exact Nat.lt_of_le_of_lt (h'.choose_spec.2.2 s' hi' hrel') hlt
      · exact Nat.lt_of_le_of_lt (Nat.zero_le _) hlt
    | _ => exact ⟨st', hr', hq⟩

theorem fits_refl (ws : List Nat) (f : Nat → AV) (vals : List (Nat × AV)) (h : ∀ p, p ∈ vals → f p.1 = p.2) : Fits ws vals f f := ⟨fun _ _ => rfl, h⟩

theorem out_upd {ws : List Nat} {f g : Nat → AV} {d : Nat} {x : AV} (hd : ws.elem d = true) (h : ∀ t, ws.elem t = false → g t = f t) : ∀ t, ws.elem t = false → upd g d x t = f t := by
  intro t ht
  unfold upd
  cases hb : Nat.beq t d with
  | true => rw [Nat.eq_of_beq_eq_true hb, hd] at ht; cases ht
  | false => exact h t ht

theorem out_mix (ws : List Nat) (f : Nat → AV) : ∀ t, ws.elem t = false → mix ws f t = f t := by
  intro t ht; unfold mix; rw [ht]; rfl

end
end Go.Cat
