/- A region that draws its order, whatever order is drawn: the rule, proved. No condition. -/
import Derived.Test.YtkbkfcehehofnaaCatP
namespace Go.Cat
set_option linter.all false
open Go.RowKit
variable [M : Mono]

section
variable {P : Program} {T : TT} {C : Ctx}

theorem Plan0.lt {ops : Array Oper} {m : Nat} {dep : Nat → Nat → Prop} (hp : Plan0 ops m dep) : ∀ i j, i < ops.size → j < ops.size → dep i j → j < i := by
  intro i
  induction i using Nat.strongRecOn with
  | _ i ih =>
    intro j hi hj hd
    obtain ⟨e, he, hb, h⟩ := hp.step i _ j (Array.getElem?_eq_getElem hi) hj hd
    have hlt := hp.dec i _ (Array.getElem?_eq_getElem hi) e he hb
    rcases h with h | h
    · omega
    · have := ih e.on hlt j (by omega) hj h; omega

theorem drop_cons {ops : Array Oper} {k : Nat} (h : k < ops.size) : ops.toList.drop k = ops[k] :: ops.toList.drop (k + 1) := by
  rw [List.drop_eq_getElem_cons (by simpa using h)]; simp

theorem mem_take_drop {ops : Array Oper} {m k : Nat} {o : Oper} (h : o ∈ (ops.toList.take m).drop k) : ∃ i, k ≤ i ∧ i < m ∧ ops[i]? = some o := by
  obtain ⟨i, hi, rfl⟩ := List.mem_iff_getElem.1 h
  simp only [List.length_drop, List.length_take, Array.length_toList] at hi
  refine ⟨k + i, by omega, by omega, ?_⟩
  have : k + i < ops.size := by omega
  simp [List.getElem_take, this]

theorem Plan0.lin {ops : Array Oper} {m : Nat} {dep : Nat → Nat → Prop} (hp : Plan0 ops m dep) : ∀ q k, q + k = m → Lin ops (((ops.toList.take m).drop k).filter fun o => (alOf o).isNone) := by
  intro q
  induction q with
  | zero =>
    intro k hk
    have : (ops.toList.take m).drop k = [] := List.drop_eq_nil_of_le (by simp; omega)
    rw [this]; exact True.intro
  | succ q ih =>
    intro k hk
    have hkm : k < m := by omega
    have hks : k < ops.size := by have := hp.le; omega
    have hcons : (ops.toList.take m).drop k = ops[k] :: (ops.toList.take m).drop (k + 1) := by
      rw [List.drop_eq_getElem_cons (by simp; omega)]
      simp [List.getElem_take]
    rw [hcons, List.filter_cons]
    have ho : ops[k]? = some ops[k] := Array.getElem?_eq_getElem hks
    split
    · rename_i hal
      have hal : alOf ops[k] = none := by simpa using hal
      obtain ⟨d, hd⟩ := hp.dst k _ hkm ho
      refine ⟨⟨d, hd, fun o' ho' hd' => ?_⟩, fun t ht o' ho' hd' => ?_, ih (k + 1) (by omega)⟩
      · obtain ⟨i, hi1, hi2, hi3⟩ := mem_take_drop (List.mem_filter.1 ho').1
        have := hp.one k _ i o' d hkm hi2 ho hi3 hd hd'
        omega
      · have : ∃ i, k ≤ i ∧ i < m ∧ ops[i]? = some o' := by
          rcases List.mem_cons.1 ho' with rfl | h
          · exact ⟨k, Nat.le_refl _, hkm, ho⟩
          · obtain ⟨i, hi1, hi2, hi3⟩ := mem_take_drop (List.mem_filter.1 h).1
            exact ⟨i, by omega, hi2, hi3⟩
        obtain ⟨i, hi1, hi2, hi3⟩ := this
        have hdep := (hp.look k _ t i o' hkm hi2 ho hal ht hi3 hd').1
        have := hp.lt k i hks (by have := hp.le; omega) hdep
        omega
    · exact ih (k + 1) (by omega)

theorem boxes_nodup {ops : Array Oper} {m : Nat} {dep : Nat → Nat → Prop} (hp : Plan0 ops m dep) : ∀ q k, q + k = m → ((((ops.toList.take m).drop k).filterMap alOf).map (·.1)).Nodup := by
  intro q
  induction q with
  | zero =>
    intro k hk
    have : (ops.toList.take m).drop k = [] := List.drop_eq_nil_of_le (by simp; omega)
    rw [this]; simp
  | succ q ih =>
    intro k hk
    have hkm : k < m := by omega
    have hks : k < ops.size := by have := hp.le; omega
    have hcons : (ops.toList.take m).drop k = ops[k] :: (ops.toList.take m).drop (k + 1) := by
      rw [List.drop_eq_getElem_cons (by simp; omega)]
      simp [List.getElem_take]
    have ho : ops[k]? = some ops[k] := Array.getElem?_eq_getElem hks
    rw [hcons, List.filterMap_cons]
    split
    · exact ih (k + 1) (by omega)
    · rename_i x hx
      simp only [List.map_cons, List.nodup_cons]
      refine ⟨fun hm => ?_, ih (k + 1) (by omega)⟩
      obtain ⟨y, hy, hyx⟩ := List.mem_map.1 hm
      obtain ⟨o', ho', hal'⟩ := List.mem_filterMap.1 hy
      obtain ⟨i, hi1, hi2, hi3⟩ := mem_take_drop ho'
      obtain ⟨d, t⟩ := x
      obtain ⟨d', t'⟩ := y
      simp only at hyx
      subst hyx
      have := hp.one k _ i o' d' hkm hi2 ho hi3 (alOf_dst hx).1 (alOf_dst hal').1
      omega

theorem wpo_end {n : Nat} {ops : Array Oper} {st : ASt} {K : ASt → Prop} (h : wpo P T n ops (ops.toList.drop ops.size) st K) : K st := by
  have : ops.toList.drop ops.size = [] := List.drop_eq_nil_of_le (by simp)
  rw [this] at h; exact h

theorem rel_drew {st : ASt} {a : Act} {w : World} (h : Rel C st a w) : Rel C st a w.drew := by
  obtain ⟨F, β, hs, hd, hf, he⟩ := h
  have hb : Below w.heap.size w w.drew := (Below.refl _ _).drew
  exact ⟨FNew F w w.drew, β, hs, hd, fun t => (hf t).later hb he.inv.fsize, he.trans (ext_quiet (st := ⟨noSlots, st.H⟩) he.inv hb)⟩

theorem draw_rule {id m n : Nat} {ops : Array Oper} {st : ASt} {K : ASt → Prop} (hT : TOk P T) (hm : P.follows .mixedOrders = true) (hchk : drawChk m ops = true)
    (h : wpd P T n ops (steady m ops) (eraseAll (boxesOf m ops) st) fun st1 => bindAll T n (boxesOf m ops) st1 fun st2 => wpo P T n ops (ops.toList.drop m) st2 K) : DrawOk P n id ops st K := by
  refine ⟨fun C hn a w hr0 => ?_⟩
  have hp := plan_of_chk hchk
  have hr := rel_drew hr0
  refine wp_region_any hm ?_
  show wpAny P .any ops _ ops.size (Array.replicate ops.size false) a w.drew
  generalize w.drew = w at hr
  clear hr0
  obtain ⟨F, β, hs, hd, hf, he⟩ := hr
  obtain ⟨β', hf', he', hund, hkeys⟩ := erase_all (boxesOf m ops) (fun d t h => by
    obtain ⟨o, hmo, ho⟩ := List.mem_filterMap.1 h
    obtain ⟨i, hi, ho'⟩ := mem_take.1 hmo
    exact hp.low i o d hi ho' (alOf_dst ho).1) hf he
  have hlin : Lin ops (steady m ops) := by simpa [steady] using hp.lin m 0 (by omega)
  obtain ⟨fe, hfe, hb, hlt, hok⟩ := wpd_extract (steady m ops) _ hlin h
  have hnd : ((boxesOf m ops).map (·.1)).Nodup := by simpa [boxesOf] using boxes_nodup hp.toPlan0 m 0 (by omega)
  have hnew : ∀ d t, (d, t) ∈ boxesOf m ops → ∀ c, (d, c) ∉ (eraseAll (boxesOf m ops) st).H := fun d t hm => hkeys d (.inr ⟨t, hm⟩)
  obtain ⟨fA, HA, hK, hA1, hA2, hA3, hA4⟩ := bindAll_spec (boxesOf m ops) ⟨fe, (eraseAll (boxesOf m ops) st).H⟩ hb hnd hnew he'.inv.keys
  generalize hHm : (eraseAll (boxesOf m ops) st).H = Hm at *
  have memBox : ∀ {d t}, (d, t) ∈ boxesOf m ops ↔ ∃ i o, i < m ∧ ops[i]? = some o ∧ alOf o = some (d, t) := by
    intro d t
    constructor
    · intro h
      obtain ⟨o, ho, hal⟩ := List.mem_filterMap.1 h
      obtain ⟨i, hi, ho⟩ := mem_take.1 ho
      exact ⟨i, o, hi, ho, hal⟩
    · rintro ⟨i, o, hi, ho, hal⟩
      exact List.mem_filterMap.2 ⟨o, mem_take.2 ⟨i, hi, ho⟩, hal⟩
  have memSteady : ∀ {i o}, i < m → ops[i]? = some o → alOf o = none → o ∈ steady m ops := fun hi ho hal => List.mem_filter.2 ⟨mem_take.2 ⟨_, hi, ho⟩, by simp [hal]⟩
  have hAfe : ∀ t, (∀ j o' ty, j < m → ops[j]? = some o' → alOf o' ≠ some (t, ty)) → fA t = fe t := fun t ht => hA1 t fun ty hm => by
    obtain ⟨j, o', hj, ho', hal⟩ := memBox.1 hm
    exact ht j o' ty hj ho' hal
  have lt : ∀ {i o}, ops[i]? = some o → i < ops.size := fun h => (Array.getElem?_eq_some_iff.1 h).1
  -- the whole, by the number of operations that are left
  have key : ∀ fuel (listed : Array Bool) (a : Act) (w : World), listed.size = ops.size → listed.toList.count false ≤ fuel →
      (∀ i o, listed.getD i false = true → ops[i]? = some o → ∀ e, e ∈ o.after → Region.binds .any e = true → listed.getD e.on false = true) →
      (((∀ i, m ≤ i → listed.getD i false = false) ∧ Half C T ops m fA Hm listed a w) ∨
        ∃ k, m ≤ k ∧ k ≤ ops.size ∧ (∀ i, i < ops.size → (listed.getD i false = true ↔ i < k)) ∧ ∃ st, Rel C st a w ∧ wpo P T n ops (ops.toList.drop k) st K) →
      wpAny P .any ops (fun e a' w' => ∃ st', Rel C st' a' w' ∧ (match e with | .normal => K st' | _ => False)) fuel listed a w := by
    intro fuel
    induction fuel with
    | zero =>
      intro listed a w hsz hcnt hcl hph
      have hall : ∀ i, i < ops.size → listed.getD i false = true := fun i hi => by
        have h0 : listed.toList.count false = 0 := by omega
        have hi' : i < listed.size := by omega
        have hmem : listed[i] ∈ listed.toList := by simp
        cases hb : listed[i] with
        | true => simp [hi', hb]
        | false => rw [hb] at hmem; exact absurd hmem (List.count_eq_zero.1 h0)
      have hready : Region.ready .any ops listed = [] := by
        apply List.eq_nil_iff_forall_not_mem.2
        intro i hi
        obtain ⟨h1, o, ho, _⟩ := mem_ready.1 hi
        have := hall i (lt ho)
        have hi' : i < listed.size := by have := lt ho; omega
        simp [hi'] at h1 this
        rw [h1] at this; cases this
      refine ⟨hready, ?_⟩
      rcases hph with ⟨hge, hhalf⟩ | ⟨k, hk1, hk2, hk3, st', hrel, hw⟩
      · have hms : m = ops.size := by
          rcases Nat.lt_or_ge m ops.size with h | h
          · have := hge m (Nat.le_refl _); rw [hall m h] at this; cases this
          · have := hp.le; omega
        obtain ⟨F1, β1, H1, g1, g2, g3, g4, g5, g6⟩ := hhalf.ex
        refine ⟨⟨fA, HA⟩, ⟨F1, β1, g1, g2, fun t => g6 t fun i o hi _ _ => hall i (by omega), g3.congr_heap (fun x => ?_) hA3⟩, ?_⟩
        · rw [g4 x, hA4 x]
          constructor
          · rintro (h | ⟨d, t, z, h1, h2, h3⟩)
            · exact .inl h
            · obtain ⟨i, o, hi, ho, hal⟩ := memBox.1 h1
              exact .inr ⟨i, o, d, t, z, hi, hall i (by omega), ho, hal, h2, h3⟩
          · rintro (h | ⟨i, o, d, t, z, hi, _, ho, hal, h2, h3⟩)
            · exact .inl h
            · exact .inr ⟨d, t, z, memBox.2 ⟨i, o, hi, ho, hal⟩, h2, h3⟩
        · rw [hms] at hK
          exact wpo_end hK
      · have hks : k = ops.size := by
          rcases Nat.lt_or_ge k ops.size with h | h
          · have := (hk3 k h).1 (hall k h); omega
          · omega
        refine ⟨st', hrel, ?_⟩
        rw [hks] at hw
        exact wpo_end hw
    | succ fuel ih =>
      intro listed a w hsz hcnt hcl hph
      -- what hangs on what is listed is listed
      have hclosed : ∀ i, i < ops.size → (∀ o, ops[i]? = some o → ∀ e, e ∈ o.after → Region.binds .any e = true → listed.getD e.on false = true) → ∀ j, j < ops.size → depOf ops i j = true → listed.getD j false = true := by
        intro i
        induction i using Nat.strongRecOn with
        | _ i ihi =>
          intro hi hdir j hj hdep
          obtain ⟨e, he1, hb1, h⟩ := hp.step i _ j (Array.getElem?_eq_getElem hi) hj hdep
          have hl := hdir _ (Array.getElem?_eq_getElem hi) e he1 hb1
          have hlt' := hp.dec i _ (Array.getElem?_eq_getElem hi) e he1 hb1
          rcases h with h | h
          · rw [← h]; exact hl
          · exact ihi e.on hlt' (by omega) (fun o ho => hcl e.on o hl ho) j hj h
      have unl : ∀ {i o}, i ∈ Region.ready .any ops listed → ops[i]? = some o → listed.getD i false = false ∧ ∀ e, e ∈ o.after → Region.binds .any e = true → listed.getD e.on false = true := fun hi ho => by
        obtain ⟨h1, o', ho', h2⟩ := mem_ready.1 hi
        rw [ho] at ho'; cases ho'
        have := lt ho
        refine ⟨?_, h2⟩
        have hi' := lt ho
        rw [← hsz] at hi'
        simpa [hi'] using h1
      have isReady : ∀ {i o}, ops[i]? = some o → listed.getD i false = false → (∀ j, j < i → listed.getD j false = true) → i ∈ Region.ready .any ops listed := fun ho h1 h2 => by
        refine mem_ready.2 ⟨?_, _, ho, fun e he hb => h2 _ (hp.dec _ _ ho e he hb)⟩
        have hi' := lt ho
        rw [← hsz] at hi'
        simpa [hi'] using h1
      have next : ∀ i, i < ops.size → listed.getD i false = false → (listed.setIfInBounds i true).size = ops.size ∧ (listed.setIfInBounds i true).toList.count false ≤ fuel := fun i hi h1 => by
        refine ⟨by simpa using hsz, ?_⟩
        have hi' : i < listed.size := by omega
        have h2 : listed.toList[i]? = some false := by
          have : listed[i] = false := by simpa [hi'] using h1
          simp [hi', this]
        have := count_set listed.toList i h2
        simp only [Array.toList_setIfInBounds]
        omega
      have closedNext : ∀ i o, ops[i]? = some o → (∀ e, e ∈ o.after → Region.binds .any e = true → listed.getD e.on false = true) →
          ∀ j o', (listed.setIfInBounds i true).getD j false = true → ops[j]? = some o' → ∀ e, e ∈ o'.after → Region.binds .any e = true → (listed.setIfInBounds i true).getD e.on false = true := fun i o ho hdir j o' hj ho' e he1 hb1 => by
        have hi' : i < listed.size := by rw [hsz]; exact lt ho
        rw [set_get hi'] at hj ⊢
        split
        · rfl
        · split at hj
          · rename_i e2
            subst e2
            rw [ho] at ho'; cases ho'
            exact hdir e he1 hb1
          · exact hcl j o' hj ho' e he1 hb1
      -- the second phase
      have second : (∃ k, m ≤ k ∧ k ≤ ops.size ∧ (∀ i, i < ops.size → (listed.getD i false = true ↔ i < k)) ∧ ∃ st, Rel C st a w ∧ wpo P T n ops (ops.toList.drop k) st K) →
          wpAny P .any ops (fun e a' w' => ∃ st', Rel C st' a' w' ∧ (match e with | .normal => K st' | _ => False)) (fuel + 1) listed a w := by
        rintro ⟨k, hk1, hk2, hk3, st', hrel, hw⟩
        rcases Nat.lt_or_ge k ops.size with hks | hks
        · have hok' : ops[k]? = some ops[k] := Array.getElem?_eq_getElem hks
          have hkun : listed.getD k false = false := by
            cases hb : listed.getD k false
            · rfl
            · have := (hk3 k hks).1 hb; omega
          have hkr := isReady hok' hkun fun j hj => (hk3 j (by omega)).2 hj
          refine ⟨fun h0 => (by rw [h0] at hkr; cases hkr), fun i hi => ?_⟩
          obtain ⟨_, o, ho, _⟩ := mem_ready.1 hi
          obtain ⟨hun, hdir⟩ := unl hi ho
          have hik : i = k := by
            have h1 : ¬ i < k := fun h => by rw [(hk3 i (lt ho)).2 h] at hun; cases hun
            rcases Nat.lt_or_ge k i with h2 | h2
            · have := hclosed i (lt ho) (fun o' ho' => by rw [ho] at ho'; cases ho'; exact hdir) k hks (hp.tail i k (by omega) (lt ho) h2)
              rw [this] at hkun; cases hkun
            · omega
          subst hik
          rw [drop_cons hks] at hw
          rw [ho] at hok'
          cases hok'
          obtain ⟨hn1, hn2⟩ := next i hks hun
          refine wpOp_one (K := fun st => wpo P T n ops (ops.toList.drop (i + 1)) st K) hT hn ho hrel (fun st2 a2 w2 hr2 hk2' => ?_) hw
          refine ih _ a2 w2 hn1 hn2 (closedNext i _ ho hdir) (.inr ⟨i + 1, by omega, by omega, fun j hj => ?_, st2, hr2, hk2'⟩)
          have hi' : i < listed.size := by rw [hsz]; exact hks
          rw [set_get hi']
          split
          · rename_i e2; subst e2; simp
          · rw [hk3 j hj]; omega
        · have hall : ∀ i, i < ops.size → listed.getD i false = true := fun i hi => (hk3 i hi).2 (by omega)
          have hready : Region.ready .any ops listed = [] := by
            apply List.eq_nil_iff_forall_not_mem.2
            intro i hi
            obtain ⟨_, o, ho, _⟩ := mem_ready.1 hi
            obtain ⟨hun, _⟩ := unl hi ho
            rw [hall i (lt ho)] at hun; cases hun
          refine ⟨fun _ => ⟨st', hrel, ?_⟩, fun i hi => by rw [hready] at hi; cases hi⟩
          have : k = ops.size := by omega
          rw [this] at hw
          exact wpo_end hw
      rcases hph with ⟨hge, hhalf⟩ | hph
      · by_cases hpre : ∀ i, i < m → listed.getD i false = true
        · refine second ⟨m, Nat.le_refl _, hp.le, fun i hi => ⟨fun h => ?_, fun h => hpre i h⟩, ⟨fA, HA⟩, ?_, hK⟩
          · rcases Nat.lt_or_ge i m with h1 | h1
            · exact h1
            · rw [hge i h1] at h; cases h
          · obtain ⟨F1, β1, H1, g1, g2, g3, g4, g5, g6⟩ := hhalf.ex
            refine ⟨F1, β1, g1, g2, fun t => g6 t fun i o hi _ _ => hpre i hi, g3.congr_heap (fun x => ?_) hA3⟩
            rw [g4 x, hA4 x]
            constructor
            · rintro (h | ⟨d, t, z, h1, h2, h3⟩)
              · exact .inl h
              · obtain ⟨i, o, hi, ho, hal⟩ := memBox.1 h1
                exact .inr ⟨i, o, d, t, z, hi, hpre i hi, ho, hal, h2, h3⟩
            · rintro (h | ⟨i, o, d, t, z, hi, _, ho, hal, h2, h3⟩)
              · exact .inl h
              · exact .inr ⟨d, t, z, memBox.2 ⟨i, o, hi, ho, hal⟩, h2, h3⟩
        · -- the least that is not done
          have hex : ∃ i, i < m ∧ listed.getD i false = false ∧ ∀ j, j < i → listed.getD j false = true := by
            have : ∃ i, i < m ∧ listed.getD i false = false := by
              refine Classical.byContradiction fun hno => hpre fun i hi => ?_
              cases hb : listed.getD i false
              · exact absurd ⟨i, hi, hb⟩ hno
              · rfl
            obtain ⟨i, hi, hb⟩ := this
            induction i using Nat.strongRecOn with
            | _ i ihi =>
              by_cases hall : ∀ j, j < i → listed.getD j false = true
              · exact ⟨i, hi, hb, hall⟩
              · have : ∃ j, j < i ∧ listed.getD j false = false := by
                  refine Classical.byContradiction fun hno => hall fun j hj => ?_
                  cases hb : listed.getD j false
                  · exact absurd ⟨j, hj, hb⟩ hno
                  · rfl
                obtain ⟨j, hj, hbj⟩ := this
                exact ihi j hj (by omega) hbj
          obtain ⟨i0, hi0, hb0, hall0⟩ := hex
          have hi0s : i0 < ops.size := by have := hp.le; omega
          have hr0 := isReady (Array.getElem?_eq_getElem hi0s) hb0 hall0
          refine ⟨fun h0 => (by rw [h0] at hr0; cases hr0), fun i hi => ?_⟩
          obtain ⟨_, o, ho, _⟩ := mem_ready.1 hi
          obtain ⟨hun, hdir⟩ := unl hi ho
          have hdep : ∀ j, j < ops.size → depOf ops i j = true → listed.getD j false = true := fun j hj hd => hclosed i (lt ho) (fun o' ho' => by rw [ho] at ho'; cases ho'; exact hdir) j hj hd
          have him : i < m := by
            rcases Nat.lt_or_ge i m with h | h
            · exact h
            · have := hdep i0 hi0s (hp.tail i i0 h (lt ho) (by omega))
              rw [this] at hb0; cases hb0
          obtain ⟨hn1, hn2⟩ := next i (lt ho) hun
          have cont : ∀ a w, Half C T ops m fA Hm (listed.setIfInBounds i true) a w → wpAny P .any ops (fun e a' w' => ∃ st', Rel C st' a' w' ∧ (match e with | .normal => K st' | _ => False)) fuel (listed.setIfInBounds i true) a w := fun a2 w2 hh => by
            refine ih _ a2 w2 hn1 hn2 (closedNext i o ho hdir) (.inl ⟨fun j hj => ?_, hh⟩)
            have hi' : i < listed.size := by rw [hsz]; exact lt ho
            rw [set_get hi']
            split
            · omega
            · exact hge j hj
          cases hal : alOf o with
          | none => exact half_steady hT hn hp.toPlan0 hsz him ho hal hun (fun j hj hd => hdep j (by have := hp.le; omega) hd) hAfe he'.inv.keys (hok o (memSteady him ho hal)) (hlt o (memSteady him ho hal)) hhalf cont
          | some x =>
            obtain ⟨d, t⟩ := x
            obtain ⟨q1, q2, z, q3, q4⟩ := hA2 d t (memBox.2 ⟨i, o, him, ho, hal⟩)
            exact half_alloc hT hn hp.toPlan0 hsz him ho hal hun q3 q4 q1 q2 (hnew d t (memBox.2 ⟨i, o, him, ho, hal⟩)) hhalf cont
      · exact second hph
  have rep : ∀ i, (Array.replicate ops.size false).getD i false = false := fun i => by
    simp only [Array.getD_eq_getD_getElem?, Array.getElem?_replicate]
    split <;> rfl
  refine key ops.size _ a w (by simp) (by simp) (fun i o hi => by rw [rep] at hi; cases hi) (.inl ⟨fun i _ => rep i, F, β', Hm, hs, hd, he', fun x => ⟨.inl, fun h => ?_⟩, fun i o d t hi ho hal _ => hund d (.inr ⟨t, memBox.2 ⟨i, o, hi, ho, hal⟩⟩), fun t ht => ?_⟩)
  · rcases h with h | ⟨i, o, d, t, z, h1, h2, _⟩
    · exact h
    · rw [rep] at h2; cases h2
  · have hno : ∀ i o, i < m → ops[i]? = some o → o.dst ≠ some t := fun i o hi ho hd' => by
      have := ht i o hi ho hd'
      rw [rep] at this; cases this
    rw [hAfe t fun j o' ty hj ho' hal => hno j o' hj ho' (alOf_dst hal).1, hfe t fun o ho => by
      obtain ⟨i, hi, ho'⟩ := mem_take.1 (List.mem_filter.1 ho).1
      exact hno i o hi ho']
    exact hf' t

/-! A region with a store that need not wait for all that stands ahead of it. -/
def atStore (T : TT) (ops : Array Oper) (m : Nat) (st : ASt) (K : ASt → Prop) : Prop :=
  match ops[m]? with
  | some o => match o.op with
    | .store t x y => eStore T t (ev st.f x) (ev st.f y) st fun _ st' => K st'
    | _ => False
  | none => False

def lateL (P : Program) (T : TT) (ops : Array Oper) (st : ASt) : List Nat → Prop
  | [] => True
  | j :: r => (match ops[j]? with
    | some o => OpOk P T ops st.H st.f o
    | none => False) ∧ lateL P T ops st r

theorem lateL_mem {ops : Array Oper} {st : ASt} : ∀ {late : List Nat}, lateL P T ops st late → ∀ j o, j ∈ late → ops[j]? = some o → OpOk P T ops st.H st.f o
  | [], _, _, _, h, _ => by cases h
  | i :: r, hl, j, o, h, ho => by
    rcases List.mem_cons.1 h with rfl | h
    · have := hl.1
      rw [ho] at this
      exact this
    · exact lateL_mem hl.2 j o h ho

theorem eStore_at {t : Nat} {x y : AV} {st : ASt} {k : AV → ASt → Prop} (h : eStore T t x y st k) : ∃ H', k (.v undef) ⟨st.f, H'⟩ ∧ (∀ f, eStore T t x y ⟨f, st.H⟩ fun _ s => s = ⟨f, H'⟩) ∧ H'.map (·.1) = st.H.map (·.1) := by
  unfold eStore at h ⊢
  split at h
  · rename_i i hi
    split at h
    · rename_i id off
      split at h
      · rename_i cells hc
        unfold stCells at h ⊢
        obtain ⟨hb, C, hC, h⟩ := cond_prop h
        exact ⟨_, h, fun f => by simp only [hc]; exact bif_of hb ⟨C, hC, rfl⟩, setC_keys _⟩
      · exact h.elim
    · rename_i id K m j
      split at h
      · rename_i E K' rows hc
        obtain ⟨hi0, row, hrow, hK, h⟩ := cond_prop h
        unfold stCells at h ⊢
        obtain ⟨hb, C, hC, R, hR, h⟩ := cond_prop h
        exact ⟨_, h, fun f => by simp only [hc]; exact bif_of hi0 ⟨row, hrow, hK, bif_of hb ⟨C, hC, R, hR, rfl⟩⟩, setC_keys _⟩
      · exact h.elim
    · exact h.elim
  · exact h.elim

theorem draw_rule2 {id m n : Nat} {late : List Nat} {ops : Array Oper} {st : ASt} {K : ASt → Prop} (hT : TOk P T) (hm : P.follows .mixedOrders = true) (hchk : drawChk2 m late ops = true)
    (h : wpd P T n ops (steady m ops) (eraseAll (boxesOf m ops) st) fun st1 => bindAll T n (boxesOf m ops) st1 fun st1 => atStore T ops m st1 fun st2 => lateL P T ops st2 late ∧ wpo P T n ops (ops.toList.drop (m + 1)) st2 K) : DrawOk P n id ops st K := by
  refine ⟨fun C hn a w hr0 => ?_⟩
  have hp := plan2_of_chk hchk
  have hr := rel_drew hr0
  refine wp_region_any hm ?_
  show wpAny P .any ops _ ops.size (Array.replicate ops.size false) a w.drew
  generalize w.drew = w at hr
  clear hr0
  obtain ⟨F, β, hs, hd, hf, he⟩ := hr
  obtain ⟨β', hf', he', hund, hkeysB⟩ := erase_all (boxesOf m ops) (fun d t h => by
    obtain ⟨o, hmo, ho⟩ := List.mem_filterMap.1 h
    obtain ⟨i, hi, ho'⟩ := mem_take.1 hmo
    exact hp.low i o d hi ho' (alOf_dst ho).1) hf he
  have hlin : Lin ops (steady m ops) := by simpa [steady] using hp.lin m 0 (by omega)
  obtain ⟨fe, hfe, hb, hlt, hok⟩ := wpd_extract (steady m ops) _ hlin h
  have hnd : ((boxesOf m ops).map (·.1)).Nodup := by simpa [boxesOf] using boxes_nodup hp.toPlan0 m 0 (by omega)
  have hnew : ∀ d t, (d, t) ∈ boxesOf m ops → ∀ c, (d, c) ∉ (eraseAll (boxesOf m ops) st).H := fun d t hm => hkeysB d (.inr ⟨t, hm⟩)
  obtain ⟨fA, HA, hbA, hA1, hA2, hA3, hA4⟩ := bindAll_spec (boxesOf m ops) ⟨fe, (eraseAll (boxesOf m ops) st).H⟩ hb hnd hnew he'.inv.keys
  generalize hHm : (eraseAll (boxesOf m ops) st).H = Hm at *
  have memBox : ∀ {d t}, (d, t) ∈ boxesOf m ops ↔ ∃ i o, i < m ∧ ops[i]? = some o ∧ alOf o = some (d, t) := by
    intro d t
    constructor
    · intro h
      obtain ⟨o, ho, hal⟩ := List.mem_filterMap.1 h
      obtain ⟨i, hi, ho⟩ := mem_take.1 ho
      exact ⟨i, o, hi, ho, hal⟩
    · rintro ⟨i, o, hi, ho, hal⟩
      exact List.mem_filterMap.2 ⟨o, mem_take.2 ⟨i, hi, ho⟩, hal⟩
  have memSteady : ∀ {i o}, i < m → ops[i]? = some o → alOf o = none → o ∈ steady m ops := fun hi ho hal => List.mem_filter.2 ⟨mem_take.2 ⟨_, hi, ho⟩, by simp [hal]⟩
  have hAfe : ∀ t, (∀ j o' ty, j < m → ops[j]? = some o' → alOf o' ≠ some (t, ty)) → fA t = fe t := fun t ht => hA1 t fun ty hm => by
    obtain ⟨j, o', hj, ho', hal⟩ := memBox.1 hm
    exact ht j o' ty hj ho' hal
  have lt : ∀ {i o}, ops[i]? = some o → i < ops.size := fun h => (Array.getElem?_eq_some_iff.1 h).1
  obtain ⟨om, hom⟩ : ∃ om, ops[m]? = some om := ⟨_, Array.getElem?_eq_getElem hp.lt⟩
  unfold atStore at hbA
  rw [hom] at hbA
  simp only at hbA
  split at hbA
  case h_2 => exact hbA.elim
  rename_i ts xs ys hopm
  obtain ⟨H', ⟨hlate, hK⟩, hst, hHk⟩ := eStore_at hbA
  let T0 : TT := fun _ => none
  have hkeys' : (H'.map (·.1)).Nodup := by rw [hHk]; exact hA3
  -- once the store is done no box is to come
  have half_mk : ∀ {listed : Array Bool} {a : Act} {w : World} {F β}, (∀ i o, i < m → ops[i]? = some o → alOf o ≠ none → listed.getD i false = true) → a.tmps.size = C.n → a.defers = [] → Ext C.w C.F C.β ⟨noSlots, C.H⟩ w F β ⟨noSlots, H'⟩ →
      (∀ t, (∀ i o, i < m → ops[i]? = some o → o.dst = some t → listed.getD i false = true) → Rd w F β (fA t) (a.tmps.getD t undef)) → Half C T0 ops m fA H' listed a w :=
    fun hal h1 h2 h3 h4 => ⟨_, _, _, h1, h2, h3, fun x => ⟨.inl, fun h => h.elim (fun h => h) fun ⟨i, o, d, t, z, _, _, _, _, hz, _⟩ => by cases hz⟩,
      ⟨fun i o d t hi ho ha hl => (by rw [hal i o hi ho (by rw [ha]; simp)] at hl; cases hl), h4⟩⟩
  have half_get : ∀ {listed : Array Bool} {a : Act} {w : World}, Half C T0 ops m fA H' listed a w → ∃ F β, a.tmps.size = C.n ∧ a.defers = [] ∧ Ext C.w C.F C.β ⟨noSlots, C.H⟩ w F β ⟨noSlots, H'⟩ ∧
      (∀ t, (∀ i o, i < m → ops[i]? = some o → o.dst = some t → listed.getD i false = true) → Rd w F β (fA t) (a.tmps.getD t undef)) := fun hh => by
    obtain ⟨F1, β1, H1, g1, g2, g3, g4, g5, g6⟩ := hh.ex
    refine ⟨F1, β1, g1, g2, g3.congr_heap (fun x => ?_) hkeys', g6⟩
    rw [g4 x]
    exact ⟨.inl, fun h => h.elim (fun h => h) fun ⟨i, o, d, t, z, _, _, _, _, hz, _⟩ => by cases hz⟩
  have key : ∀ fuel (listed : Array Bool) (a : Act) (w : World), listed.size = ops.size → listed.toList.count false ≤ fuel →
      (∀ i o, listed.getD i false = true → ops[i]? = some o → ∀ e, e ∈ o.after → Region.binds .any e = true → listed.getD e.on false = true) →
      (((∀ i, m ≤ i → listed.getD i false = false) ∧ Half C T ops m fA Hm listed a w) ∨
        (listed.getD m false = true ∧ (∀ i, m < i → listed.getD i false = false) ∧ Half C T0 ops m fA H' listed a w) ∨
        ∃ k, m < k ∧ k ≤ ops.size ∧ (∀ i, i < ops.size → (listed.getD i false = true ↔ i < k)) ∧ ∃ st, Rel C st a w ∧ wpo P T n ops (ops.toList.drop k) st K) →
      wpAny P .any ops (fun e a' w' => ∃ st', Rel C st' a' w' ∧ (match e with | .normal => K st' | _ => False)) fuel listed a w := by
    intro fuel
    induction fuel with
    | zero =>
      intro listed a w hsz hcnt hcl hph
      have hall : ∀ i, i < ops.size → listed.getD i false = true := fun i hi => by
        have h0 : listed.toList.count false = 0 := by omega
        have hi' : i < listed.size := by omega
        have hmem : listed[i] ∈ listed.toList := by simp
        cases hb : listed[i] with
        | true => simp [hi', hb]
        | false => rw [hb] at hmem; exact absurd hmem (List.count_eq_zero.1 h0)
      have hready : Region.ready .any ops listed = [] := by
        apply List.eq_nil_iff_forall_not_mem.2
        intro i hi
        obtain ⟨h1, o, ho, _⟩ := mem_ready.1 hi
        have := hall i (lt ho)
        have hi' : i < listed.size := by have := lt ho; omega
        simp [hi'] at h1 this
        rw [h1] at this; cases this
      refine ⟨hready, ?_⟩
      rcases hph with ⟨hge, _⟩ | ⟨_, hge, hhalf⟩ | ⟨k, hk1, hk2, hk3, st', hrel, hw⟩
      · have := hge m (Nat.le_refl _); rw [hall m hp.lt] at this; cases this
      · have hms : m + 1 = ops.size := by
          rcases Nat.lt_or_ge (m + 1) ops.size with h | h
          · have := hge (m + 1) (by omega); rw [hall (m + 1) h] at this; cases this
          · have := hp.lt; omega
        obtain ⟨F1, β1, g1, g2, g3, g6⟩ := half_get hhalf
        refine ⟨⟨fA, H'⟩, ⟨F1, β1, g1, g2, fun t => g6 t fun i o hi _ _ => hall i (by omega), g3⟩, ?_⟩
        rw [hms] at hK
        exact wpo_end hK
      · have hks : k = ops.size := by
          rcases Nat.lt_or_ge k ops.size with h | h
          · have := (hk3 k h).1 (hall k h); omega
          · omega
        refine ⟨st', hrel, ?_⟩
        rw [hks] at hw
        exact wpo_end hw
    | succ fuel ih =>
      intro listed a w hsz hcnt hcl hph
      have hclosed : ∀ i, i < ops.size → (∀ o, ops[i]? = some o → ∀ e, e ∈ o.after → Region.binds .any e = true → listed.getD e.on false = true) → ∀ j, j < ops.size → depOf ops i j = true → listed.getD j false = true := by
        intro i
        induction i using Nat.strongRecOn with
        | _ i ihi =>
          intro hi hdir j hj hdep
          obtain ⟨e, he1, hb1, h⟩ := hp.step i _ j (Array.getElem?_eq_getElem hi) hj hdep
          have hl := hdir _ (Array.getElem?_eq_getElem hi) e he1 hb1
          have hlt' := hp.dec i _ (Array.getElem?_eq_getElem hi) e he1 hb1
          rcases h with h | h
          · rw [← h]; exact hl
          · exact ihi e.on hlt' (by omega) (fun o ho => hcl e.on o hl ho) j hj h
      have unl : ∀ {i o}, i ∈ Region.ready .any ops listed → ops[i]? = some o → listed.getD i false = false ∧ ∀ e, e ∈ o.after → Region.binds .any e = true → listed.getD e.on false = true := fun hi ho => by
        obtain ⟨h1, o', ho', h2⟩ := mem_ready.1 hi
        rw [ho] at ho'; cases ho'
        have := lt ho
        refine ⟨?_, h2⟩
        have hi' := lt ho
        rw [← hsz] at hi'
        simpa [hi'] using h1
      have isReady : ∀ {i o}, ops[i]? = some o → listed.getD i false = false → (∀ j, j < i → listed.getD j false = true) → i ∈ Region.ready .any ops listed := fun ho h1 h2 => by
        refine mem_ready.2 ⟨?_, _, ho, fun e he hb => h2 _ (hp.dec _ _ ho e he hb)⟩
        have hi' := lt ho
        rw [← hsz] at hi'
        simpa [hi'] using h1
      have next : ∀ i, i < ops.size → listed.getD i false = false → (listed.setIfInBounds i true).size = ops.size ∧ (listed.setIfInBounds i true).toList.count false ≤ fuel := fun i hi h1 => by
        refine ⟨by simpa using hsz, ?_⟩
        have hi' : i < listed.size := by omega
        have h2 : listed.toList[i]? = some false := by
          have : listed[i] = false := by simpa [hi'] using h1
          simp [hi', this]
        have := count_set listed.toList i h2
        simp only [Array.toList_setIfInBounds]
        omega
      have closedNext : ∀ i o, ops[i]? = some o → (∀ e, e ∈ o.after → Region.binds .any e = true → listed.getD e.on false = true) →
          ∀ j o', (listed.setIfInBounds i true).getD j false = true → ops[j]? = some o' → ∀ e, e ∈ o'.after → Region.binds .any e = true → (listed.setIfInBounds i true).getD e.on false = true := fun i o ho hdir j o' hj ho' e he1 hb1 => by
        have hi' : i < listed.size := by rw [hsz]; exact lt ho
        rw [set_get hi'] at hj ⊢
        split
        · rfl
        · split at hj
          · rename_i e2
            subst e2
            rw [ho] at ho'; cases ho'
            exact hdir e he1 hb1
          · exact hcl j o' hj ho' e he1 hb1
      -- the least that is not done
      have least : ∀ (q : Nat), (¬ ∀ i, i < q → listed.getD i false = true) → ∃ i, i < q ∧ listed.getD i false = false ∧ ∀ j, j < i → listed.getD j false = true := fun q hpre => by
        have : ∃ i, i < q ∧ listed.getD i false = false := by
          refine Classical.byContradiction fun hno => hpre fun i hi => ?_
          cases hb : listed.getD i false
          · exact absurd ⟨i, hi, hb⟩ hno
          · rfl
        obtain ⟨i, hi, hb⟩ := this
        induction i using Nat.strongRecOn with
        | _ i ihi =>
          by_cases hall : ∀ j, j < i → listed.getD j false = true
          · exact ⟨i, hi, hb, hall⟩
          · have : ∃ j, j < i ∧ listed.getD j false = false := by
              refine Classical.byContradiction fun hno => hall fun j hj => ?_
              cases hb : listed.getD j false
              · exact absurd ⟨j, hj, hb⟩ hno
              · rfl
            obtain ⟨j, hj, hbj⟩ := this
            exact ihi j hj (by omega) hbj
      have depL : ∀ {i o}, ops[i]? = some o → (∀ e, e ∈ o.after → Region.binds .any e = true → listed.getD e.on false = true) → ∀ j, j < ops.size → depOf ops i j = true → listed.getD j false = true :=
        fun ho hdir j hj hd => hclosed _ (lt ho) (fun o' ho' => by rw [ho] at ho'; cases ho'; exact hdir) j hj hd
      have third : (∃ k, m < k ∧ k ≤ ops.size ∧ (∀ i, i < ops.size → (listed.getD i false = true ↔ i < k)) ∧ ∃ st, Rel C st a w ∧ wpo P T n ops (ops.toList.drop k) st K) →
          wpAny P .any ops (fun e a' w' => ∃ st', Rel C st' a' w' ∧ (match e with | .normal => K st' | _ => False)) (fuel + 1) listed a w := by
        rintro ⟨k, hk1, hk2, hk3, st', hrel, hw⟩
        rcases Nat.lt_or_ge k ops.size with hks | hks
        · have hok' : ops[k]? = some ops[k] := Array.getElem?_eq_getElem hks
          have hkun : listed.getD k false = false := by
            cases hb : listed.getD k false
            · rfl
            · have := (hk3 k hks).1 hb; omega
          have hkr := isReady hok' hkun fun j hj => (hk3 j (by omega)).2 hj
          refine ⟨fun h0 => (by rw [h0] at hkr; cases hkr), fun i hi => ?_⟩
          obtain ⟨_, o, ho, _⟩ := mem_ready.1 hi
          obtain ⟨hun, hdir⟩ := unl hi ho
          have hik : i = k := by
            have h1 : ¬ i < k := fun h => by rw [(hk3 i (lt ho)).2 h] at hun; cases hun
            rcases Nat.lt_or_ge k i with h2 | h2
            · have := depL ho hdir k hks (hp.tail i k (by omega) (lt ho) h2)
              rw [this] at hkun; cases hkun
            · omega
          subst hik
          rw [drop_cons hks] at hw
          rw [ho] at hok'
          cases hok'
          obtain ⟨hn1, hn2⟩ := next i hks hun
          refine wpOp_one (K := fun st => wpo P T n ops (ops.toList.drop (i + 1)) st K) hT hn ho hrel (fun st2 a2 w2 hr2 hk2' => ?_) hw
          refine ih _ a2 w2 hn1 hn2 (closedNext i _ ho hdir) (.inr (.inr ⟨i + 1, by omega, by omega, fun j hj => ?_, st2, hr2, hk2'⟩))
          have hi' : i < listed.size := by rw [hsz]; exact hks
          rw [set_get hi']
          split
          · rename_i e2; subst e2; simp
          · rw [hk3 j hj]; omega
        · have hall : ∀ i, i < ops.size → listed.getD i false = true := fun i hi => (hk3 i hi).2 (by omega)
          have hready : Region.ready .any ops listed = [] := by
            apply List.eq_nil_iff_forall_not_mem.2
            intro i hi
            obtain ⟨_, o, ho, _⟩ := mem_ready.1 hi
            obtain ⟨hun, _⟩ := unl hi ho
            rw [hall i (lt ho)] at hun; cases hun
          refine ⟨fun _ => ⟨st', hrel, ?_⟩, fun i hi => by rw [hready] at hi; cases hi⟩
          have : k = ops.size := by omega
          rw [this] at hw
          exact wpo_end hw
      rcases hph with ⟨hge, hhalf⟩ | ⟨hmd, hge, hhalf⟩ | hph
      · -- the store is to come
        have hmun := hge m (Nat.le_refl _)
        obtain ⟨i0, hi0, hb0, hall0⟩ := least (m + 1) fun hh => by have := hh m (by omega); rw [hmun] at this; cases this
        have hi0s : i0 < ops.size := by have := hp.lt; omega
        have hr0 := isReady (Array.getElem?_eq_getElem hi0s) hb0 hall0
        refine ⟨fun h0 => (by rw [h0] at hr0; cases hr0), fun i hi => ?_⟩
        obtain ⟨_, o, ho, _⟩ := mem_ready.1 hi
        obtain ⟨hun, hdir⟩ := unl hi ho
        have hdep := depL ho hdir
        obtain ⟨hn1, hn2⟩ := next i (lt ho) hun
        have him : i ≤ m := by
          rcases Nat.lt_or_ge m i with h | h
          · have := hdep m hp.lt (hp.tail i m h (lt ho) h)
            rw [this] at hmun; cases hmun
          · exact h
        have hi' : i < listed.size := by rw [hsz]; exact lt ho
        rcases Nat.lt_or_ge i m with him | him
        · have cont : ∀ a w, Half C T ops m fA Hm (listed.setIfInBounds i true) a w → wpAny P .any ops (fun e a' w' => ∃ st', Rel C st' a' w' ∧ (match e with | .normal => K st' | _ => False)) fuel (listed.setIfInBounds i true) a w := fun a2 w2 hh => by
            refine ih _ a2 w2 hn1 hn2 (closedNext i o ho hdir) (.inl ⟨fun j hj => ?_, hh⟩)
            rw [set_get hi']
            split
            · omega
            · exact hge j hj
          cases hal : alOf o with
          | none => exact half_steady hT hn hp.toPlan0 hsz him ho hal hun (fun j hj hd => hdep j (by have := hp.lt; omega) hd) hAfe he'.inv.keys (hok o (memSteady him ho hal)) (hlt o (memSteady him ho hal)) hhalf cont
          | some x =>
            obtain ⟨d, t⟩ := x
            obtain ⟨q1, q2, z, q3, q4⟩ := hA2 d t (memBox.2 ⟨i, o, him, ho, hal⟩)
            exact half_alloc hT hn hp.toPlan0 hsz him ho hal hun q3 q4 q1 q2 (hnew d t (memBox.2 ⟨i, o, him, ho, hal⟩)) hhalf cont
        · obtain rfl : i = m := by omega
          rw [hom] at ho
          cases ho
          have hals : ∀ j o', j < i → ops[j]? = some o' → alOf o' ≠ none → listed.getD j false = true := fun j o' hj ho' ha => by
            rcases hp.late j o' hj ho' with h | h
            · exact hdep j (lt ho') h
            · exact absurd h.1 ha
          obtain ⟨F1, β1, g1, g2, g3, g6⟩ : ∃ F β, a.tmps.size = C.n ∧ a.defers = [] ∧ Ext C.w C.F C.β ⟨noSlots, C.H⟩ w F β ⟨noSlots, HA⟩ ∧
              (∀ t, (∀ j o, j < i → ops[j]? = some o → o.dst = some t → listed.getD j false = true) → Rd w F β (fA t) (a.tmps.getD t undef)) := by
            obtain ⟨F1, β1, H1, g1, g2, g3, g4, g5, g6⟩ := hhalf.ex
            refine ⟨F1, β1, g1, g2, g3.congr_heap (fun x => ?_) hA3, g6⟩
            rw [g4 x, hA4 x]
            constructor
            · rintro (h | ⟨d, t, z, h1, h2, h3⟩)
              · exact .inl h
              · obtain ⟨j, o', hj, ho', hal⟩ := memBox.1 h1
                exact .inr ⟨j, o', d, t, z, hj, hals j o' hj ho' (by rw [hal]; simp), ho', hal, h2, h3⟩
            · rintro (h | ⟨j, o', d, t, z, hj, _, ho', hal, h2, h3⟩)
              · exact .inl h
              · exact .inr ⟨d, t, z, memBox.2 ⟨j, o', hj, ho', hal⟩, h2, h3⟩
          obtain ⟨hdst, hgd⟩ := hp.store _ hom
          -- what is known of the slots as yet
          obtain ⟨known, hknown, hkn⟩ : ∃ known : Nat → AV, (∀ t, (∀ j o, j < i → ops[j]? = some o → o.dst = some t → listed.getD j false = true) → known t = fA t) ∧ ∀ t, Rd w F1 β1 (known t) (a.tmps.getD t undef) := by
            classical
            refine ⟨fun t => if ∀ j o, j < i → ops[j]? = some o → o.dst = some t → listed.getD j false = true then fA t else .junk, fun t ht => if_pos ht, fun t => ?_⟩
            simp only
            split
            · rename_i hh; exact g6 t hh
            · exact .junk
          have hlk : ∀ t, t ∈ om.looksAt ops → known t = fA t := fun t ht => hknown t fun j o' hj ho' hd' => by
            exact hdep j (by have := lt ho'; omega) (hp.lookm om t j o' hom ht hj ho' hd')
          have hev : ∀ x, x ∈ om.op.operands → ev known x = ev fA x := fun x hx => by
            cases x with
            | tmp t => exact hlk t (List.mem_append_left _ (List.mem_filterMap.2 ⟨.tmp t, by simpa using hx, rfl⟩))
            | _ => rfl
          have hstep : gd n ops om ⟨known, HA⟩ (fun st => step P T om st fun r st' => put n om.dst st' r fun s => s = ⟨known, H'⟩) fun st => put n om.dst st (.v undef) fun s => s = ⟨known, H'⟩ := by
            rw [gd_eq, hgd]
            have h1 := hst known
            have e1 : ev known xs = ev fA xs := hev xs (by rw [hopm]; simp [Op.operands])
            have e2 : ev known ys = ev fA ys := hev ys (by rw [hopm]; simp [Op.operands])
            have h2 : eStore T ts (ev known xs) (ev known ys) ⟨known, HA⟩ fun r st' => put n om.dst st' r fun s => s = ⟨known, H'⟩ := by
              rw [e1, e2, hdst]
              have : (fun (r : AV) (st' : ASt) => put n none st' r fun s => s = ⟨known, H'⟩) = fun _ st' => st' = ⟨known, H'⟩ := by
                funext r st'; rw [put_eq]
              rw [this]; exact h1
            have h3 : step P T om ⟨known, HA⟩ (fun r st' => put n om.dst st' r fun s => s = ⟨known, H'⟩) = step0 P T om ⟨known, HA⟩ fun r st' => put n om.dst st' r fun s => s = ⟨known, H'⟩ := by
              unfold step; rw [hdst]; rfl
            show step P T om ⟨known, HA⟩ _
            rw [h3]
            unfold step0
            rw [hopm]
            exact h2
          refine wpOp_one (st := ⟨known, HA⟩) (K := fun s => s = ⟨known, H'⟩) hT hn hom ⟨F1, β1, g1, g2, hkn, g3⟩ (fun st2 a2 w2 hr2 hk2 => ?_) hstep
          subst hk2
          obtain ⟨F2, β2, q1, q2, q3, q4⟩ := hr2
          refine ih _ a2 w2 hn1 hn2 (closedNext i om hom hdir) (.inr (.inl ⟨by rw [set_get hi', if_pos rfl], fun j hj => ?_, half_mk (fun j o' hj ho' ha => by rw [set_get hi']; split; rfl; exact hals j o' hj ho' ha) q1 q2 q4 fun t ht => ?_⟩))
          · rw [set_get hi', if_neg (by omega)]; exact hge j (by omega)
          · have h1 := q3 t
            have : known t = fA t := hknown t fun j o' hj ho' hd' => by
              have := ht j o' hj ho' hd'
              rwa [set_get hi', if_neg (by omega)] at this
            rw [← this]; exact h1
      · -- the store is done
        by_cases hpre : ∀ i, i < m → listed.getD i false = true
        · refine third ⟨m + 1, by omega, by have := hp.lt; omega, fun i hi => ⟨fun h => ?_, fun h => ?_⟩, ⟨fA, H'⟩, ?_, hK⟩
          · rcases Nat.lt_or_ge m i with h1 | h1
            · rw [hge i h1] at h; cases h
            · omega
          · rcases Nat.lt_or_ge i m with h1 | h1
            · exact hpre i h1
            · obtain rfl : i = m := by omega
              exact hmd
          · obtain ⟨F1, β1, g1, g2, g3, g6⟩ := half_get hhalf
            exact ⟨F1, β1, g1, g2, fun t => g6 t fun i o hi _ _ => hpre i hi, g3⟩
        · obtain ⟨i0, hi0, hb0, hall0⟩ := least m hpre
          have hi0s : i0 < ops.size := by have := hp.lt; omega
          have hr0 := isReady (Array.getElem?_eq_getElem hi0s) hb0 hall0
          refine ⟨fun h0 => (by rw [h0] at hr0; cases hr0), fun i hi => ?_⟩
          obtain ⟨_, o, ho, _⟩ := mem_ready.1 hi
          obtain ⟨hun, hdir⟩ := unl hi ho
          have hdep := depL ho hdir
          obtain ⟨hn1, hn2⟩ := next i (lt ho) hun
          have hi' : i < listed.size := by rw [hsz]; exact lt ho
          have him : i < m := by
            rcases Nat.lt_or_ge m i with h | h
            · have := hdep i0 hi0s (hp.tail i i0 h (lt ho) (by omega))
              rw [this] at hb0; cases hb0
            · rcases Nat.lt_or_ge i m with h2 | h2
              · exact h2
              · obtain rfl : i = m := by omega
                rw [hmd] at hun; cases hun
          obtain ⟨hal, hoklate⟩ : alOf o = none ∧ OpOk P T ops H' fA o := by
            rcases hp.late i o him ho with h | h
            · have := hclosed m hp.lt (fun o ho => hcl m o hmd ho) i (by omega) h
              rw [this] at hun; cases hun
            · exact ⟨h.1, lateL_mem hlate i o h.2 ho⟩
          refine half_steady hT hn hp.toPlan0 hsz him ho hal hun (fun j hj hd => hdep j (by have := hp.lt; omega) hd) (fun _ _ => rfl) hkeys' hoklate (hlt o (memSteady him ho hal)) hhalf fun a2 w2 hh => ?_
          refine ih _ a2 w2 hn1 hn2 (closedNext i o ho hdir) (.inr (.inl ⟨?_, fun j hj => ?_, hh⟩))
          · rw [set_get hi']; split
            · rfl
            · exact hmd
          · rw [set_get hi', if_neg (by omega)]; exact hge j hj
      · exact third hph
  have rep : ∀ i, (Array.replicate ops.size false).getD i false = false := fun i => by
    simp only [Array.getD_eq_getD_getElem?, Array.getElem?_replicate]
    split <;> rfl
  refine key ops.size _ a w (by simp) (by simp) (fun i o hi => by rw [rep] at hi; cases hi) (.inl ⟨fun i _ => rep i, F, β', Hm, hs, hd, he', fun x => ⟨.inl, fun h => ?_⟩, fun i o d t hi ho hal _ => hund d (.inr ⟨t, memBox.2 ⟨i, o, hi, ho, hal⟩⟩), fun t ht => ?_⟩)
  · rcases h with h | ⟨i, o, d, t, z, h1, h2, _⟩
    · exact h
    · rw [rep] at h2; cases h2
  · have hno : ∀ i o, i < m → ops[i]? = some o → o.dst ≠ some t := fun i o hi ho hd' => by
      have := ht i o hi ho hd'
      rw [rep] at this; cases this
    rw [hAfe t fun j o' ty hj ho' hal => hno j o' hj ho' (alOf_dst hal).1, hfe t fun o ho => by
      obtain ⟨i, hi, ho'⟩ := mem_take.1 (List.mem_filter.1 ho).1
      exact hno i o hi ho']
    exact hf' t

end
end Go.Cat
