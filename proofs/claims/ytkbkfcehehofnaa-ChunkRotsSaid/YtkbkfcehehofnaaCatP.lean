/- A region that draws its order, whatever order is drawn: the rule. No condition. -/
import Derived.Test.YtkbkfcehehofnaaCatO
namespace Go.Cat
set_option linter.all false
open Go.RowKit
variable [M : Mono]

def bitsOf (ops : Array Oper) : Array Nat := Region.before ops

def depOf (ops : Array Oper) (i j : Nat) : Bool := ((bitsOf ops).getD i 0).testBit j

def chkA (i : Nat) (o : Oper) : Bool := o.after.all fun e => !Region.binds .any e || decide (e.on < i)
def chkB (ops : Array Oper) (i : Nat) (o : Oper) : Bool := (List.range ops.size).all fun j => !depOf ops i j || o.after.any fun e => Region.binds .any e && (e.on == j || depOf ops e.on j)
def chkD (m : Nat) (ops : Array Oper) (i : Nat) (o : Oper) : Bool :=
  match o.dst with
  | none => false
  | some d => Nat.blt d 1000 && (List.range m).all fun j => i == j || ((ops[j]?).bind (·.dst)) != some d
def chkL (m : Nat) (ops : Array Oper) (i : Nat) (o : Oper) : Bool :=
  (alOf o).isSome || (o.looksAt ops).all fun t => (List.range m).all fun j => match ops[j]? with
    | none => true
    | some o' => (o'.dst != some t) || (depOf ops i j && (alOf o').isNone)
def chkT (ops : Array Oper) (i : Nat) : Bool := (List.range i).all fun j => depOf ops i j

/-- The check of a region: m operations ahead, in whatever order, then the rest in the text's. -/
def drawChk (m : Nat) (ops : Array Oper) : Bool :=
  Nat.ble m ops.size && ((List.range ops.size).all fun i => match ops[i]? with
    | none => true
    | some o => chkA i o && (chkB ops i o && (bif Nat.blt i m then chkD m ops i o && chkL m ops i o else chkT ops i)))

structure Plan0 (ops : Array Oper) (m : Nat) (dep : Nat → Nat → Prop) : Prop where
  le : m ≤ ops.size
  dec : ∀ i o, ops[i]? = some o → ∀ e, e ∈ o.after → Region.binds .any e = true → e.on < i
  step : ∀ i o j, ops[i]? = some o → j < ops.size → dep i j → ∃ e, e ∈ o.after ∧ Region.binds .any e = true ∧ (e.on = j ∨ dep e.on j)
  dst : ∀ i o, i < m → ops[i]? = some o → ∃ d, o.dst = some d
  one : ∀ i o j o' d, i < m → j < m → ops[i]? = some o → ops[j]? = some o' → o.dst = some d → o'.dst = some d → i = j
  low : ∀ i o d, i < m → ops[i]? = some o → o.dst = some d → d < 1000
  look : ∀ i o t j o', i < m → j < m → ops[i]? = some o → alOf o = none → t ∈ o.looksAt ops → ops[j]? = some o' → o'.dst = some t → dep i j ∧ alOf o' = none

structure Plan (ops : Array Oper) (m : Nat) (dep : Nat → Nat → Prop) : Prop extends Plan0 ops m dep where
  tail : ∀ i j, m ≤ i → i < ops.size → j < i → dep i j

theorem plan0_of {m : Nat} {ops : Array Oper} (hle : m ≤ ops.size) (get : ∀ i o, ops[i]? = some o → chkA i o = true ∧ chkB ops i o = true ∧ (i < m → chkD m ops i o = true ∧ chkL m ops i o = true)) : Plan0 ops m fun i j => depOf ops i j = true := by
  refine ⟨hle, fun i o ho e he hb => ?_, fun i o j ho hj hd => ?_, fun i o hi ho => ?_, fun i o j o' d hi hj ho ho' hd hd' => ?_, fun i o d hi ho hd => ?_, fun i o t j o' hi hj ho hal ht ho' hd' => ?_⟩
  · have := (Array.all_eq_true'.1 (get i o ho).1) e he
    simpa [hb] using this
  · have h1 := (get i o ho).2.1
    simp only [chkB, List.all_eq_true, List.mem_range] at h1
    have h1 := h1 j hj
    simp only [hd, Bool.not_true, Bool.false_or] at h1
    obtain ⟨e, he, hb⟩ := Array.any_eq_true'.1 h1
    simp only [Bool.and_eq_true, Bool.or_eq_true, beq_iff_eq] at hb
    exact ⟨e, he, hb.1, hb.2⟩
  · have h1 := ((get i o ho).2.2 hi).1
    unfold chkD at h1
    cases hd : o.dst with
    | none => rw [hd] at h1; exact absurd h1 (by simp)
    | some d => exact ⟨d, rfl⟩
  · have h1 := ((get i o ho).2.2 hi).1
    unfold chkD at h1
    rw [hd] at h1
    simp only [Bool.and_eq_true, List.all_eq_true, List.mem_range] at h1
    have := h1.2 j hj
    rw [ho'] at this
    simpa [hd'] using this
  · have h1 := ((get i o ho).2.2 hi).1
    unfold chkD at h1
    rw [hd] at h1
    simp only [Bool.and_eq_true] at h1
    simpa using h1.1
  · have h1 := ((get i o ho).2.2 hi).2
    simp only [chkL, hal, Option.isSome_none, Bool.false_or, List.all_eq_true, List.mem_range] at h1
    have := h1 t ht j hj
    rw [ho'] at this
    simpa [hd'] using this

theorem plan_of_chk {m : Nat} {ops : Array Oper} (h : drawChk m ops = true) : Plan ops m fun i j => depOf ops i j = true := by
  simp only [drawChk, Bool.and_eq_true, List.all_eq_true, List.mem_range] at h
  obtain ⟨hle, h⟩ := h
  have hle : m ≤ ops.size := by simpa using hle
  have get : ∀ i o, ops[i]? = some o → chkA i o = true ∧ chkB ops i o = true ∧ (i < m → chkD m ops i o = true ∧ chkL m ops i o = true) ∧ (m ≤ i → chkT ops i = true) := fun i o ho => by
    have h1 := h i (Array.getElem?_eq_some_iff.1 ho).1
    rw [ho] at h1
    simp only [Bool.and_eq_true] at h1
    refine ⟨h1.1, h1.2.1, fun hi => ?_, fun hi => ?_⟩
    · have hb : Nat.blt i m = true := by simpa [Nat.blt_eq] using hi
      have := h1.2.2
      rw [hb] at this
      simpa using this
    · have hb : Nat.blt i m = false := by
        cases hb : Nat.blt i m
        · rfl
        · have : i < m := by simpa [Nat.blt_eq] using hb
          omega
      have := h1.2.2
      rw [hb] at this
      simpa using this
  refine ⟨plan0_of hle fun i o ho => ⟨(get i o ho).1, (get i o ho).2.1, (get i o ho).2.2.1⟩, fun i j hi hn hj => ?_⟩
  · have h1 := (get i _ (Array.getElem?_eq_getElem hn)).2.2.2 hi
    simp only [chkT, List.all_eq_true, List.mem_range] at h1
    exact h1 j hj

/-- The check of a region where a store, operation m, need not wait for all that stands ahead of it. -/
def drawChk2 (m : Nat) (late : List Nat) (ops : Array Oper) : Bool :=
  Nat.blt m ops.size && ((List.range ops.size).all fun i => match ops[i]? with
    | none => true
    | some o => chkA i o && (chkB ops i o && (bif Nat.blt i m then (chkD m ops i o && chkL m ops i o) && (depOf ops m i || ((alOf o).isNone && late.elem i)) else (bif Nat.blt m i then chkT ops i else o.dst.isNone && (o.guard.isNone && ((o.looksAt ops).all fun t => (List.range m).all fun j => match ops[j]? with
      | none => true
      | some o' => (o'.dst != some t) || depOf ops m j))))))

structure Plan2 (ops : Array Oper) (m : Nat) (late : List Nat) (dep : Nat → Nat → Prop) : Prop extends Plan0 ops m dep where
  lt : m < ops.size
  tail : ∀ i j, m < i → i < ops.size → j < i → dep i j
  late : ∀ i o, i < m → ops[i]? = some o → dep m i ∨ (alOf o = none ∧ i ∈ late)
  store : ∀ o, ops[m]? = some o → o.dst = none ∧ o.guard = none
  lookm : ∀ o t j o', ops[m]? = some o → t ∈ o.looksAt ops → j < m → ops[j]? = some o' → o'.dst = some t → dep m j

theorem plan2_of_chk {m : Nat} {late : List Nat} {ops : Array Oper} (h : drawChk2 m late ops = true) : Plan2 ops m late fun i j => depOf ops i j = true := by
  simp only [drawChk2, Bool.and_eq_true, List.all_eq_true, List.mem_range] at h
  obtain ⟨hlt, h⟩ := h
  have hlt : m < ops.size := by simpa [Nat.blt_eq] using hlt
  have get : ∀ i o, ops[i]? = some o → chkA i o = true ∧ chkB ops i o = true ∧ (i < m → chkD m ops i o = true ∧ chkL m ops i o = true ∧ (depOf ops m i = true ∨ (alOf o = none ∧ i ∈ late))) ∧ (m < i → chkT ops i = true) ∧ (i = m → o.dst = none ∧ o.guard = none ∧ ∀ t, t ∈ o.looksAt ops → ∀ j, j < m → (match ops[j]? with | none => true | some o' => (o'.dst != some t) || depOf ops m j) = true) := fun i o ho => by
    have h1 := h i (Array.getElem?_eq_some_iff.1 ho).1
    rw [ho] at h1
    simp only [Bool.and_eq_true] at h1
    obtain ⟨h1, h2, h3⟩ := h1
    refine ⟨h1, h2, fun hi => ?_, fun hi => ?_, fun hi => ?_⟩
    · have hb : Nat.blt i m = true := by simpa [Nat.blt_eq] using hi
      rw [hb] at h3
      simp only [cond_true, Bool.and_eq_true, Bool.or_eq_true] at h3
      refine ⟨h3.1.1, h3.1.2, h3.2.imp (fun h => h) fun h => by simpa using h⟩
    · have hb : Nat.blt i m = false := by
        cases hb : Nat.blt i m
        · rfl
        · have : i < m := by simpa [Nat.blt_eq] using hb
          omega
      have hb2 : Nat.blt m i = true := by simpa [Nat.blt_eq] using hi
      rw [hb, hb2] at h3
      simpa using h3
    · subst hi
      have hb : Nat.blt i i = false := by
        cases hb : Nat.blt i i
        · rfl
        · have : i < i := by simpa [Nat.blt_eq] using hb
          omega
      rw [hb] at h3
      simpa [hb] using h3
  refine ⟨plan0_of (by omega) fun i o ho => ⟨(get i o ho).1, (get i o ho).2.1, fun hi => ⟨((get i o ho).2.2.1 hi).1, ((get i o ho).2.2.1 hi).2.1⟩⟩, hlt, fun i j hi hn hj => ?_, fun i o hi ho => ((get i o ho).2.2.1 hi).2.2, fun o ho => ⟨((get m o ho).2.2.2.2 rfl).1, ((get m o ho).2.2.2.2 rfl).2.1⟩, fun o t j o' ho ht hj ho' hd => by
    have := ((get m o ho).2.2.2.2 rfl).2.2 t ht j hj
    rw [ho'] at this
    simpa [hd] using this⟩
  have h1 := (get i _ (Array.getElem?_eq_getElem hn)).2.2.2.1 hi
  simp only [chkT, List.all_eq_true, List.mem_range] at h1
  exact h1 j hj

section
variable {P : Program} {T : TT} {C : Ctx}

/-! Labels that name nothing, from the first. -/
theorem erase_one {d : Nat} (hlow : d < 1000) {st : ASt} {w : World} {F : Nat → Prop} {β : Nat → Value} {g : Nat → Value} (hf : ∀ t, Rd w F β (st.f t) (g t)) (he : Ext C.w C.F C.β ⟨noSlots, C.H⟩ w F β ⟨noSlots, st.H⟩) :
    let β' := fun i => if i = d then undef else β i
    (∀ t, Rd w F β' (er 2 d (st.f t)) (g t)) ∧ Ext C.w C.F C.β ⟨noSlots, C.H⟩ w F β' ⟨noSlots, erH d st.H⟩ := by
  intro β'
  have hβ : ∀ i, i ≠ d → β' i = β i := fun i hi => if_neg hi
  have hI : Inv w F β st.H := he.inv
  have hown : ∀ b, Owned β' (erH d st.H) b → Owned β st.H b := by
    rintro b ⟨i, c, hm, hb⟩
    obtain ⟨hi, c', hm', _⟩ := erH_mem hm
    exact ⟨i, c', hm', by rw [← hβ i hi]; exact hb⟩
  refine ⟨fun t => er_rd hβ 2 (hf t), he.os, he.tape, he.output, he.size, he.block, he.mono, he.new, fun b hb => he.owned b (hown b hb), fun _ _ _ => .junk, ?_, fun i hi => (hβ i (by omega)).trans (he.lab i hi)⟩
  refine ⟨hI.fsize, fun i c hm => ?_, erH_keys hI.keys, fun b hb => hI.apart b (hown b hb), fun i c i' c' b hm hm' hb hb' => ?_⟩
  · obtain ⟨hi, c', hm', rfl⟩ := erH_mem hm
    exact holds_er hi hβ (hI.holds i c' hm')
  · obtain ⟨hi, c2, h2, _⟩ := erH_mem hm
    obtain ⟨hi', c2', h2', _⟩ := erH_mem hm'
    rw [hβ i hi] at hb
    rw [hβ i' hi'] at hb'
    exact hI.disj i c2 i' c2' b h2 h2' hb hb'

theorem erase_all {w : World} {F : Nat → Prop} {g : Nat → Value} : ∀ (al : List (Nat × Nat)) (_ : ∀ d t, (d, t) ∈ al → d < 1000) {st : ASt} {β : Nat → Value}, (∀ t, Rd w F β (st.f t) (g t)) → Ext C.w C.F C.β ⟨noSlots, C.H⟩ w F β ⟨noSlots, st.H⟩ →
    ∃ β', (∀ t, Rd w F β' ((eraseAll al st).f t) (g t)) ∧ Ext C.w C.F C.β ⟨noSlots, C.H⟩ w F β' ⟨noSlots, (eraseAll al st).H⟩ ∧
      (∀ d, β d = undef ∨ (∃ t, (d, t) ∈ al) → β' d = undef) ∧ (∀ d, (∀ c, (d, c) ∉ st.H) ∨ (∃ t, (d, t) ∈ al) → ∀ c, (d, c) ∉ (eraseAll al st).H)
  | [], _, st, β, hf, he => by
    refine ⟨β, hf, he, fun d h => ?_, fun d h => ?_⟩
    · rcases h with h | ⟨t, ht⟩
      · exact h
      · exact (List.not_mem_nil ht).elim
    · rcases h with h | ⟨t, ht⟩
      · exact h
      · exact (List.not_mem_nil ht).elim
  | (d, t) :: r, hlow, st, β, hf, he => by
    obtain ⟨h1, h2⟩ := erase_one (d := d) (hlow d t (by simp)) hf he
    obtain ⟨β', h3, h4, h5, h6⟩ := erase_all r (fun d t h => hlow d t (by simp [h])) (st := ⟨fun t => er 2 d (st.f t), erH d st.H⟩) h1 h2
    refine ⟨β', h3, h4, fun e he => h5 e ?_, fun e he => h6 e ?_⟩
    · by_cases hed : e = d
      · left; simp [hed]
      · rcases he with he | ⟨t', ht'⟩
        · left; simp [hed, he]
        · rcases List.mem_cons.1 ht' with h | h
          · cases h; exact absurd rfl hed
          · exact .inr ⟨t', h⟩
    · by_cases hed : e = d
      · left; intro c hc; exact (erH_mem hc).1 hed
      · rcases he with he | ⟨t', ht'⟩
        · left; intro c hc
          obtain ⟨_, c', hc', _⟩ := erH_mem hc
          exact he c' hc'
        · rcases List.mem_cons.1 ht' with h | h
          · cases h; exact absurd rfl hed
          · exact .inr ⟨t', h⟩

theorem bindAll_spec {n : Nat} {K : ASt → Prop} : ∀ (al : List (Nat × Nat)) (st : ASt), bindAll T n al st K → (al.map (·.1)).Nodup → (∀ d t, (d, t) ∈ al → ∀ c, (d, c) ∉ st.H) → (st.H.map (·.1)).Nodup →
    ∃ fA HA, K ⟨fA, HA⟩ ∧ (∀ t, (∀ ty, (t, ty) ∉ al) → fA t = st.f t) ∧ (∀ d t, (d, t) ∈ al → fA d = .b d 0 ∧ d < n ∧ ∃ z, T t = some z ∧ okCells (ofV z.zero) = true) ∧ (HA.map (·.1)).Nodup ∧
      ∀ x, x ∈ HA ↔ x ∈ st.H ∨ ∃ d t z, (d, t) ∈ al ∧ T t = some z ∧ x = (d, .box (cellsL (ofV z.zero)))
  | [], st, h, _, _, hk => ⟨st.f, st.H, h, fun _ _ => rfl, fun d t ht => (List.not_mem_nil ht).elim, hk, fun x => ⟨.inl, fun h => h.elim id fun ⟨_, _, _, h, _⟩ => (List.not_mem_nil h).elim⟩⟩
  | (d, t) :: r, st, h, hn, hnew, hk => by
    simp only [bindAll] at h
    split at h
    · rename_i z hz
      obtain ⟨hb, h⟩ := cond_prop h
      simp only [Bool.and_eq_true] at hb
      have hlt : d < n := by simpa [Nat.blt_eq] using hb.2
      simp only [List.map_cons, List.nodup_cons] at hn
      have hdr : ∀ ty, (d, ty) ∉ r := fun ty hm => hn.1 (List.mem_map.2 ⟨_, hm, rfl⟩)
      obtain ⟨fA, HA, h1, h2, h3, h4, h5⟩ := bindAll_spec r ⟨upd st.f d (.b d 0), (d, .box (cellsL (ofV z.zero))) :: st.H⟩ h hn.2 (fun d' t' hm c hc => by
        rcases List.mem_cons.1 hc with hc | hc
        · cases hc; exact hdr _ hm
        · exact hnew d' t' (List.mem_cons_of_mem _ hm) c hc) (by
        simp only [List.map_cons, List.nodup_cons]
        refine ⟨fun hm => ?_, hk⟩
        obtain ⟨x, hx, hxe⟩ := List.mem_map.1 hm
        exact hnew d t (by simp) x.2 (by rw [← hxe]; exact hx))
      refine ⟨fA, HA, h1, fun t' ht' => ?_, fun d' t' hm => ?_, h4, fun x => ?_⟩
      · rw [h2 t' fun ty hm => ht' ty (List.mem_cons_of_mem _ hm)]
        exact upd_ne fun e => ht' t (by rw [e]; simp)
      · rcases List.mem_cons.1 hm with hm | hm
        · cases hm
          exact ⟨by rw [h2 d hdr]; exact upd_at _ _ _, hlt, z, hz, hb.1⟩
        · exact h3 d' t' hm
      · rw [h5 x, List.mem_cons]
        constructor
        · rintro ((rfl | h) | ⟨d', t', z', hm, hz', rfl⟩)
          · exact .inr ⟨d, t, z, by simp, hz, rfl⟩
          · exact .inl h
          · exact .inr ⟨d', t', z', List.mem_cons_of_mem _ hm, hz', rfl⟩
        · rintro (h | ⟨d', t', z', hm, hz', rfl⟩)
          · exact .inl (.inr h)
          · rcases List.mem_cons.1 hm with hm | hm
            · cases hm
              rw [hz] at hz'; cases hz'
              exact .inl (.inl rfl)
            · exact .inr ⟨d', t', z', hm, hz', rfl⟩
    · exact h.elim

theorem count_set : ∀ (l : List Bool) (i : Nat), l[i]? = some false → (l.set i true).count false + 1 = l.count false
  | [], i, h => by simp at h
  | b :: r, 0, h => by simp at h; subst h; simp
  | b :: r, i + 1, h => by
    have := count_set r i (by simpa using h)
    cases b <;> simp <;> omega


/-- The operations ahead, without those that lay a box; those that do. -/
def steady (m : Nat) (ops : Array Oper) : List Oper := (ops.toList.take m).filter fun o => (alOf o).isNone
def boxesOf (m : Nat) (ops : Array Oper) : List (Nat × Nat) := (ops.toList.take m).filterMap alOf

theorem mem_take {ops : Array Oper} {m : Nat} {o : Oper} : o ∈ ops.toList.take m ↔ ∃ i, i < m ∧ ops[i]? = some o := by
  constructor
  · intro h
    obtain ⟨i, hi, rfl⟩ := List.mem_iff_getElem.1 h
    simp only [List.length_take, Array.length_toList] at hi
    refine ⟨i, by omega, ?_⟩
    have : i < ops.size := by omega
    simp [List.getElem_take, this]
  · rintro ⟨i, hi, ho⟩
    obtain ⟨hlt, rfl⟩ := Array.getElem?_eq_some_iff.1 ho
    rw [List.mem_iff_getElem]
    refine ⟨i, by simp only [List.length_take, Array.length_toList]; omega, by simp [List.getElem_take]⟩

theorem alOf_dst {o : Oper} {d t : Nat} (h : alOf o = some (d, t)) : o.dst = some d ∧ o.op = .alloc t ∧ o.guard = none := by
  unfold alOf at h
  split at h
  · cases h; exact ⟨by assumption, by assumption, by assumption⟩
  · cases h

/-- The state of a region that is under way: what is listed has been done. -/
structure Half (C : Ctx) (T : TT) (ops : Array Oper) (m : Nat) (fA : Nat → AV) (Hm : Hp) (listed : Array Bool) (a : Act) (w : World) : Prop where
  ex : ∃ F β H, a.tmps.size = C.n ∧ a.defers = [] ∧ Ext C.w C.F C.β ⟨noSlots, C.H⟩ w F β ⟨noSlots, H⟩ ∧
    (∀ x, x ∈ H ↔ x ∈ Hm ∨ ∃ i o d t z, i < m ∧ listed.getD i false = true ∧ ops[i]? = some o ∧ alOf o = some (d, t) ∧ T t = some z ∧ x = (d, .box (cellsL (ofV z.zero)))) ∧
    (∀ i o d t, i < m → ops[i]? = some o → alOf o = some (d, t) → listed.getD i false = false → β d = undef) ∧
    (∀ t, (∀ i o, i < m → ops[i]? = some o → o.dst = some t → listed.getD i false = true) → Rd w F β (fA t) (a.tmps.getD t undef))

theorem set_get {listed : Array Bool} {i j : Nat} (hi : i < listed.size) : (listed.setIfInBounds i true).getD j false = (if j = i then true else listed.getD j false) := by
  by_cases h : j = i
  · subst h; simp [hi]
  · simp [Array.getElem?_setIfInBounds_ne (Ne.symm h), h]

/-- What holds of a steady operation's run in the middle of a region. -/
theorem half_steady {TH : TT} {ops : Array Oper} {m i n : Nat} {dep : Nat → Nat → Prop} {o : Oper} {fA fe : Nat → AV} {Hm : Hp} {listed : Array Bool} {a : Act} {w : World} {Q : Exit → Act → World → Prop} {N : Act → World → Prop}
    (hT : TOk P T) (hn : C.n = n) (hp : Plan0 ops m dep) (hsz : listed.size = ops.size) (hi : i < m) (ho : ops[i]? = some o) (hal : alOf o = none) (hun : listed.getD i false = false)
    (hdeps : ∀ j, j < m → dep i j → listed.getD j false = true) (hfe : ∀ t, (∀ j o' ty, j < m → ops[j]? = some o' → alOf o' ≠ some (t, ty)) → fA t = fe t)
    (hHk : (Hm.map (·.1)).Nodup) (hok : OpOk P T ops Hm fe o) (hlt : ∀ d, o.dst = some d → d < n) (h : Half C TH ops m fA Hm listed a w)
    (hN : ∀ a w, Half C TH ops m fA Hm (listed.setIfInBounds i true) a w → N a w) : wpOp P ops Q i N a w := by
  obtain ⟨F, β, H, hs, hd, he, hmem, hundef, hf⟩ := h.ex
  obtain ⟨d, hdst, hok⟩ := hok
  have hdlt : d < a.tmps.size := by rw [hs, hn]; exact hlt d hdst
  have hsize : i < listed.size := by rw [hsz]; exact (Array.getElem?_eq_some_iff.1 ho).1
  -- where the operation looks, all has been done
  have look : ∀ t, t ∈ o.looksAt ops → Rd w F β (fe t) (a.tmps.getD t undef) := fun t ht => by
    have hno : ∀ j o' ty, j < m → ops[j]? = some o' → alOf o' ≠ some (t, ty) := fun j o' ty hj ho' hal' => by
      have := (hp.look i o t j o' hi hj ho hal ht ho' (alOf_dst hal').1).2
      rw [this] at hal'; cases hal'
    rw [← hfe t hno]
    exact hf t fun j o' hj ho' hd' => hdeps j hj (hp.look i o t j o' hi hj ho hal ht ho' hd').1
  have opnd : ∀ x, x ∈ o.op.operands → Rd w F β (ev fe x) (a.eval x) := fun x hx => by
    cases x with
    | tmp t => exact look t (List.mem_append_left _ (List.mem_filterMap.2 ⟨.tmp t, by simpa using hx, rfl⟩))
    | const v => exact ofV_rd _ _ _ _
    | global g => exact .junk
    | func g => exact .i (.c rfl rfl (fun i hi => absurd hi (by simp)) (fun i hi => absurd hi (by simp)))
  have hI : Inv w F β Hm := he.inv.sub (fun x hx => (hmem x).2 (.inl hx)) hHk
  -- the slot's own label is no box's
  have hdal : ∀ j o' ty, j < m → ops[j]? = some o' → alOf o' ≠ some (d, ty) := fun j o' ty hj ho' hal' => by
    have := hp.one i o j o' d hi hj ho ho' hdst (alOf_dst hal').1
    subst this
    rw [ho] at ho'; cases ho'
    rw [hal] at hal'; cases hal'
  have done : ∀ (v : Value) (w' : World), Below w.heap.size w w' → Rd w' (FNew F w w') β (fe d) v → Half C TH ops m fA Hm (listed.setIfInBounds i true) (a.put (some d) v) w' := fun v w' hb hv => by
    have hx := ext_quiet (st := ⟨noSlots, H⟩) he.inv hb
    refine ⟨FNew F w w', β, H, by simpa [Act.put] using hs, hd, he.trans hx, fun x => ?_, fun j o' d' t hj ho' hal' hl => ?_, fun t ht => ?_⟩
    · rw [hmem x]
      constructor
      · rintro (h | ⟨j, o', d', t, z, h1, h2, h3, h4, h5, h6⟩)
        · exact .inl h
        · exact .inr ⟨j, o', d', t, z, h1, by rw [set_get hsize]; split <;> first | rfl | exact h2, h3, h4, h5, h6⟩
      · rintro (h | ⟨j, o', d', t, z, h1, h2, h3, h4, h5, h6⟩)
        · exact .inl h
        · refine .inr ⟨j, o', d', t, z, h1, ?_, h3, h4, h5, h6⟩
          rw [set_get hsize] at h2
          split at h2
          · rename_i e
            subst e
            rw [ho] at h3; cases h3
            rw [hal] at h4; cases h4
          · exact h2
    · rw [set_get hsize] at hl
      split at hl
      · cases hl
      · exact hundef j o' d' t hj ho' hal' hl
    · by_cases htd : t = d
      · subst htd
        rw [hfe t hdal]
        simpa [Act.put, hdlt] using hv
      · have h1 := (hf t fun j o' hj ho' hd' => by
          have := ht j o' hj ho' hd'
          rw [set_get hsize] at this
          split at this
          · rename_i e
            subst e
            rw [ho] at ho'; cases ho'
            rw [hdst] at hd'; cases hd'; exact absurd rfl htd
          · exact this).later hb he.inv.fsize
        simpa [Act.put, Array.getElem?_setIfInBounds_ne (Ne.symm htd)] using h1
  have run : (stepS P T o (ev fe) Hm fun r => r = fe d) → o.wp P a w N Q := fun hs => by
    unfold Oper.wp
    rcases stepS_sound hT hI opnd hs with ⟨v, w', hrun, hb, r, rfl, hv⟩ | ⟨g, vs, hrun, hc⟩
    · rw [hrun, Oper.upon_value, hdst]
      exact hN _ _ (done v w' hb hv)
    · rw [hrun, Oper.upon_enter]
      refine hc.mono ?_
      rintro e w' ⟨v, rfl, hb, r, rfl, hv⟩
      rw [hdst]
      exact hN _ _ (done v w' hb hv)
  have skip : fe d = .v undef → N (a.put o.dst undef) w := fun h0 => by
    rw [hdst]
    exact hN _ _ (done undef w (Below.refl _ _) (by rw [h0]; exact .i (.v (.inr rfl))))
  unfold wpOp
  simp only [ho]
  cases hg : o.guard with
  | none =>
    rw [hg] at hok
    have hw : Region.wanted o (yielded ops a.tmps) = true := by simp [Region.wanted, hg]
    rw [if_pos hw]
    exact .inl (run hok)
  | some jw =>
    obtain ⟨j, want⟩ := jw
    rw [hg] at hok
    obtain ⟨g, hgd, hok⟩ := hok
    have hgl : g ∈ o.looksAt ops := by
      refine List.mem_append_right _ ?_
      rw [hg]
      simp [hgd]
    have hfg := look g hgl
    have hy : ∀ v, v ≠ undef → a.tmps.getD g undef = v → yielded ops a.tmps j = match v with | .bool b => some b | _ => none := by
      intro v hne hv
      have h2 : a.tmps[g]? = some v := by
        by_cases hl : g < a.tmps.size
        · rw [← hv]; simp [hl]
        · exact absurd (by rw [← hv]; simp [hl]) hne
      unfold yielded
      rw [hgd, Option.bind_some, h2]
      cases v <;> rfl
    rcases hok with ⟨h1, h2⟩ | ⟨h1, h2⟩ | ⟨⟨vs, h1⟩, h2⟩
    · rw [h1] at hfg
      have hyb := hy _ (by simp [undef]) hfg.v_inv
      have hw : Region.wanted o (yielded ops a.tmps) = true := by simp [Region.wanted, hg, hyb]
      rw [if_pos hw]
      exact .inl (run h2)
    · rw [h1] at hfg
      have hyb := hy _ (by simp [undef]) hfg.v_inv
      have hw : ¬ Region.wanted o (yielded ops a.tmps) = true := by simp [Region.wanted, hg, hyb]
      rw [if_neg hw]
      exact skip h2
    · rw [h1] at hfg
      have hv := hfg.v_inv
      have hyb : yielded ops a.tmps j = none := by
        unfold yielded
        rw [hgd, Option.bind_some]
        by_cases hl : g < a.tmps.size
        · have h3 : a.tmps[g]? = some (.tuple vs) := by rw [← hv]; simp [hl]
          rw [h3]
        · simp [Array.getElem?_eq_none (Nat.le_of_not_lt hl)]
      have hw : ¬ Region.wanted o (yielded ops a.tmps) = true := by simp [Region.wanted, hg, hyb]
      rw [if_neg hw]
      exact skip h2

theorem half_alloc {ops : Array Oper} {m i n : Nat} {dep : Nat → Nat → Prop} {o : Oper} {d t : Nat} {z : TI} {fA : Nat → AV} {Hm : Hp} {listed : Array Bool} {a : Act} {w : World} {Q : Exit → Act → World → Prop} {N : Act → World → Prop}
    (hT : TOk P T) (hn : C.n = n) (hp : Plan0 ops m dep) (hsz : listed.size = ops.size) (hi : i < m) (ho : ops[i]? = some o) (hal : alOf o = some (d, t)) (hun : listed.getD i false = false)
    (hz : T t = some z) (hokz : okCells (ofV z.zero) = true) (hfd : fA d = .b d 0) (hlt : d < n) (hnew : ∀ c, (d, c) ∉ Hm) (h : Half C T ops m fA Hm listed a w)
    (hN : ∀ a w, Half C T ops m fA Hm (listed.setIfInBounds i true) a w → N a w) : wpOp P ops Q i N a w := by
  obtain ⟨F, β, H, hs, hd, he, hmem, hundef, hf⟩ := h.ex
  obtain ⟨hdst, hop, hgd⟩ := alOf_dst hal
  have hdlt : d < a.tmps.size := by rw [hs, hn]; exact hlt
  have hsize : i < listed.size := by rw [hsz]; exact (Array.getElem?_eq_some_iff.1 ho).1
  have hβd := hundef i o d t hi ho hal hun
  have hkey : ∀ c, (d, c) ∉ H := fun c hc => by
    rcases (hmem _).1 hc with h | ⟨j, o', d', t', z', h1, h2, h3, h4, h5, h6⟩
    · exact hnew c h
    · cases h6
      have := hp.one i o j o' d hi h1 ho h3 hdst (alOf_dst h4).1
      subst this
      rw [hun] at h2; cases h2
  have hzr := (hT _ _ hz).run_zero w
  have hrun : (execOp a.eval o).run P w = .ok (.value (.pointer (some ⟨w.heap.size, 0, none⟩))) (w.alloc (.cells z.zero.cells t)) := by
    unfold execOp
    rw [hop]
    simp [Instr.alloc, hzr, newVar, newRow]
  have hr := fun β' : Nat → Value => cells_rd (ofV_rd (w.alloc (.cells z.zero.cells t)) F z.zero β') hokz
  have hx := ext_alloc (f := noSlots) (e := t) (hp.low i o d hi ho hdst) he.inv hβd hkey (hr β).1 (fun j hj => ((hr β).2 j hj).1) (fun β' j hj => ((hr β').2 j hj).2)
  have hβ' : ∀ i, i ≠ d → (fun i => if i = d then Value.pointer (some ⟨w.heap.size, 0, none⟩) else β i) i = β i := fun i hi => if_neg hi
  have ha : Agree F w (w.alloc (.cells z.zero.cells t)) := Below.agree (below_alloc w _) he.inv.fsize
  have hw : Region.wanted o (yielded ops a.tmps) = true := by simp [Region.wanted, hgd]
  unfold wpOp
  simp only [ho]
  rw [if_pos hw]
  refine .inl ?_
  unfold Oper.wp
  rw [hrun, Oper.upon_value, hdst]
  refine hN _ _ ⟨F, _, (d, .box (cellsL (ofV z.zero))) :: H, by simpa [Act.put] using hs, hd, he.trans hx, fun x => ?_, fun j o' d' t' hj ho' hal' hl => ?_, fun q hq => ?_⟩
  · rw [List.mem_cons, hmem x]
    constructor
    · rintro (rfl | h | ⟨j, o', d', t', z', h1, h2, h3, h4, h5, h6⟩)
      · exact .inr ⟨i, o, d, t, z, hi, by rw [set_get hsize, if_pos rfl], ho, hal, hz, rfl⟩
      · exact .inl h
      · exact .inr ⟨j, o', d', t', z', h1, by rw [set_get hsize]; split <;> first | rfl | exact h2, h3, h4, h5, h6⟩
    · rintro (h | ⟨j, o', d', t', z', h1, h2, h3, h4, h5, h6⟩)
      · exact .inr (.inl h)
      · rw [set_get hsize] at h2
        split at h2
        · rename_i e
          subst e
          rw [ho] at h3; cases h3
          rw [hal] at h4; cases h4
          rw [hz] at h5; cases h5
          exact .inl h6
        · exact .inr (.inr ⟨j, o', d', t', z', h1, h2, h3, h4, h5, h6⟩)
  · rw [set_get hsize] at hl
    split at hl
    · cases hl
    · have hne : d' ≠ d := fun e => by
        subst e
        have := hp.one i o j o' d' hi hj ho ho' hdst (alOf_dst hal').1
        rename_i hji
        exact hji this.symm
      show (if d' = d then _ else β d') = undef
      rw [if_neg hne]
      exact hundef j o' d' t' hj ho' hal' hl
  · by_cases hqd : q = d
    · subst hqd
      rw [hfd]
      have : (a.put (some q) (.pointer (some ⟨w.heap.size, 0, none⟩))).tmps.getD q undef = .pointer (some ⟨w.heap.size, 0, none⟩) := by simp [Act.put, hdlt]
      rw [this]
      exact .b (by simp)
    · have h1 := (hf q fun j o' hj ho' hd' => by
        have := hq j o' hj ho' hd'
        rw [set_get hsize] at this
        split at this
        · rename_i e
          subst e
          rw [ho] at ho'; cases ho'
          rw [hdst] at hd'; cases hd'; exact absurd rfl hqd
        · exact this)
      have h2 := (h1.frame ha fun _ h => h).undef_change hβd hβ'
      simpa [Act.put, Array.getElem?_setIfInBounds_ne (Ne.symm hqd)] using h2

end
end Go.Cat
