/- From a contract of a law to its row: what is handed in, read as trees; the law's answer is true; all that was there reads as it did. No condition. -/
import Derived.Test.YtkbkfcehehofnaaCatR
import Derived.ProofKit
namespace Go.Cat
set_option linter.all false
open Go.ChangeShapes Go.WideShapes Go.RowKit
variable [M : Mono]

mutual
/-- Cells of plain data of a type, as trees. -/
inductive Dat (P : Program) : TypeId → List AV → Prop where
  | bool {t : TypeId} {b : Bool} (h : P.underlying t = some .bool) : Dat P t [.v (.bool b)]
  | int {t : TypeId} {k : IntKind} {n : Int} (h : P.underlying t = some (.int k)) (hn : (Lit.int k n).wf = true) : Dat P t [.v (.int k n)]
  | str {t : TypeId} {s : ByteArray} (h : P.underlying t = some .string) (hs : s.size ≤ maxLen) : Dat P t [.v (.string s)]
  | slice {t e : TypeId} {rows : List (List AV)} (h : P.underlying t = some (.slice e)) (hl : rows.length ≤ maxLen) (hk : ∀ r, r ∈ rows → r.length = P.cellsOf e) (hr : ∀ r, r ∈ rows → Dat P e r) : Dat P t [.s rows]
  | struct {t : TypeId} {fs : Array Field} {xs : List AV} (h : P.underlying t = some (.struct fs)) (hf : DatF P (fs.toList.map (·.type)) xs) : Dat P t xs
inductive DatF (P : Program) : List TypeId → List AV → Prop where
  | nil : DatF P [] []
  | cons {t : TypeId} {ts : List TypeId} {xs ys : List AV} (h : Dat P t xs) (hs : DatF P ts ys) : DatF P (t :: ts) (xs ++ ys)
end

/-- A value of plain data of a type, as a tree. -/
def DatV (P : Program) (t : TypeId) (x : AV) : Prop :=
  match P.underlying t with
  | some (.struct _) => ∃ cs, x = .a cs ∧ Dat P t cs
  | _ => Dat P t [x]

inductive DatL (P : Program) : List TypeId → List AV → Prop where
  | nil : DatL P [] []
  | cons {t : TypeId} {ts : List TypeId} {x : AV} {xs : List AV} (h : DatV P t x) (hs : DatL P ts xs) : DatL P (t :: ts) (x :: xs)

def plainTy (P : Program) : Nat → TypeId → Bool
  | 0, _ => false
  | n + 1, t => match P.underlying t with
    | some .bool | some (.int _) | some .string => true
    | some (.slice e) => plainTy P n e && Nat.blt 0 (P.cellsOf e)
    | some (.struct fs) => fs.toList.all fun f => plainTy P n f.type
    | _ => false

def PlainT (P : Program) (t : TypeId) : Prop := t < P.types.size ∧ ∃ n, plainTy P n t = true

theorem PlainT.slice {P : Program} (hl : laidOutB P = true) {t e : TypeId} (h : PlainT P t) (hu : P.underlying t = some (.slice e)) : PlainT P e ∧ 0 < P.cellsOf e := by
  obtain ⟨ht, n, hn⟩ := h
  cases n with
  | zero => cases hn
  | succ n =>
    simp only [plainTy, hu, Bool.and_eq_true, Nat.blt_eq] at hn
    exact ⟨⟨kid_slice hl ht hu, n, hn.1⟩, hn.2⟩

theorem PlainT.struct {P : Program} (hl : laidOutB P = true) {t : TypeId} {fs : Array Field} (h : PlainT P t) (hu : P.underlying t = some (.struct fs)) :
    (∀ f ∈ fs.toList, PlainT P f.type) ∧ P.cellsOf t = (fs.toList.map fun f => P.cellsOf f.type).sum ∧ ∀ (j : Nat) f, fs.toList[j]? = some f → f.offset = ((fs.toList.take j).map fun f => P.cellsOf f.type).sum := by
  obtain ⟨ht, n, hn⟩ := h
  obtain ⟨h1, h2, h3⟩ := kid_struct hl ht hu
  refine ⟨fun f hf => ⟨h1 f hf, ?_⟩, h2, h3⟩
  cases n with
  | zero => cases hn
  | succ n =>
    simp only [plainTy, hu, List.all_eq_true] at hn
    exact ⟨n, hn f hf⟩

theorem PlainT.no {P : Program} {t : TypeId} (h : PlainT P t) : (∀ e, P.underlying t ≠ some (.pointer e)) ∧ (∀ n e, P.underlying t ≠ some (.array n e)) ∧ (∀ k e, P.underlying t ≠ some (.map k e)) := by
  obtain ⟨_, n, hn⟩ := h
  cases n with
  | zero => cases hn
  | succ n => refine ⟨fun e he => ?_, fun m e he => ?_, fun k e he => ?_⟩ <;> simp [plainTy, he] at hn

theorem plain_kids {P : Program} (hl : laidOutB P = true) : Kids P (PlainT P) :=
  ⟨fun h hu => (h.no.1 _ hu).elim, fun h hu => (h.slice hl hu).1, fun h hu => (h.no.2.1 _ _ hu).elim, fun h hu => h.struct hl hu, fun h hu => (h.no.2.2 _ _ hu).elim⟩

section
variable {H : Type} {enc : TypeId × Value → H} {P : Program} {w : World} {base : Nat} {held : Bool}

abbrev Old (w : World) : Nat → Prop := fun b => b < w.heap.size

structure Good (P : Program) (w : World) (D : List AV → Prop) (cs : List Value) (xs : List AV) : Prop where
  len : xs.length = cs.length
  dat : D xs
  rd : ∀ i, i < cs.length → RdI w (Old w) (xs.getD i .junk) (cs.getD i undef) ∧ (cs.getD i undef).oneCell' = true

theorem Good.one {D : List AV → Prop} {x : AV} {v : Value} (hd : D [x]) (hr : RdI w (Old w) x v) (h1 : v.oneCell' = true) : Good P w D [v] [x] :=
  ⟨rfl, hd, fun i hi => by
    have : i = 0 := by simpa using hi
    subst this; exact ⟨hr, h1⟩⟩

theorem Good.app {t : TypeId} {ts : List TypeId} {a b : List Value} {xs ys : List AV} (h : Good P w (Dat P t) a xs) (h' : Good P w (DatF P ts) b ys) : Good P w (DatF P (t :: ts)) (a ++ b) (xs ++ ys) := by
  refine ⟨by simp [h.len, h'.len], .cons h.dat h'.dat, fun i hi => ?_⟩
  by_cases hlt : i < a.length
  · have e1 : (xs ++ ys).getD i .junk = xs.getD i .junk := by simp [List.getD, List.getElem?_append, h.len, hlt]
    have e2 : (a ++ b).getD i undef = a.getD i undef := by simp [List.getD, List.getElem?_append, hlt]
    rw [e1, e2]; exact h.rd i hlt
  · have e1 : (xs ++ ys).getD i .junk = ys.getD (i - a.length) .junk := by simp [List.getD, List.getElem?_append, h.len, hlt]
    have e2 : (a ++ b).getD i undef = b.getD (i - a.length) undef := by simp [List.getD, List.getElem?_append, hlt]
    rw [e1, e2]
    exact h'.rd _ (by rw [List.length_append] at hi; omega)

theorem good_fields {r : TypeId → List Value → Option (DataW H × List MemPlace)} (hr : ∀ t cs x, PlainT P t → r t cs = some x → ∃ xs, Good P w (Dat P t) cs xs) :
    ∀ (fs : List Field) (o : Nat) (cs : List Value), (∀ f, f ∈ fs → PlainT P f.type) → (∀ (j : Nat) f, fs[j]? = some f → f.offset = o + ((fs.take j).map fun f => P.cellsOf f.type).sum) → cs.length = o + (fs.map fun f => P.cellsOf f.type).sum →
      (∀ f, f ∈ fs → ∃ x, r f.type ((cs.drop f.offset).take (P.cellsOf f.type)) = some x) → ∃ xs, Good P w (DatF P (fs.map (·.type))) (cs.drop o) xs
  | [], o, cs, _, _, hl, _ => by
    have : cs.drop o = [] := List.drop_eq_nil_of_le (by simp at hl; omega)
    rw [this]
    exact ⟨[], rfl, .nil, fun i hi => by simp at hi⟩
  | f :: fs, o, cs, hp, ho, hl, hx => by
    have h0 : f.offset = o := by simpa using ho 0 f rfl
    obtain ⟨x, hx0⟩ := hx f (by simp)
    obtain ⟨xs, hg⟩ := hr _ _ _ (hp f (by simp)) hx0
    rw [h0] at hg
    obtain ⟨ys, hg'⟩ := good_fields hr fs (o + P.cellsOf f.type) cs (fun g hg => hp g (by simp [hg])) (fun j g hg => by
      have := ho (j + 1) g (by simpa using hg)
      rw [this]; simp; omega) (by simp at hl; omega) (fun g hg => hx g (by simp [hg]))
    refine ⟨xs ++ ys, ?_⟩
    have e : cs.drop o = (cs.drop o).take (P.cellsOf f.type) ++ cs.drop (o + P.cellsOf f.type) := by
      rw [← List.drop_drop, List.take_append_drop]
    rw [e]
    exact hg.app hg'

theorem mapM_some_of_mem {α β : Type} {f : α → Option β} {l : List α} {r : List β} (h : l.mapM f = some r) {x : α} (hx : x ∈ l) : ∃ y, f x = some y := by
  cases hf : f x with
  | none => rw [mapM_none_of hx hf] at h; cases h
  | some y => exact ⟨y, rfl⟩

theorem good_slice {t e : TypeId} {a : Addr} {len cap : Nat} (hu : P.underlying t = some (.slice e)) (hk : 0 < P.cellsOf e) (hlc : len ≤ cap) (hcm : cap ≤ maxLen)
    (h : ∀ i, i < cap → ∃ ci, w.cells? base (a.add (i * P.cellsOf e)) (P.cellsOf e) = some ci ∧ ∃ xs, Good P w (Dat P e) ci xs) : ∃ xs, Good P w (Dat P t) [.slice (some a) len cap] xs := by
  by_cases hc : cap = 0
  · obtain rfl : len = 0 := by omega
    subst hc
    exact ⟨_, Good.one (.slice (rows := []) hu (Nat.zero_le _) (fun _ h => by cases h) (fun _ h => by cases h)) .s0 rfl⟩
  · obtain ⟨f, hf⟩ := Classical.axiomOfChoice (r := fun i (p : List Value × List AV) => i < cap → w.cells? base (a.add (i * P.cellsOf e)) (P.cellsOf e) = some p.1 ∧ Good P w (Dat P e) p.1 p.2) (fun i => by
      by_cases hi : i < cap
      · obtain ⟨ci, h1, xs, h2⟩ := h i hi
        exact ⟨(ci, xs), fun _ => ⟨h1, h2⟩⟩
      · exact ⟨([], []), fun h => (hi h).elim⟩)
    obtain ⟨b, off, sp⟩ := a
    have c0 : ∃ v, w.cell? ⟨b, off, sp⟩ = some v := by
      obtain ⟨_, hlen, hc⟩ := World.cells?_some (hf 0 (by omega)).1
      have := hc 0 hk
      rw [List.getElem?_eq_getElem (by omega)] at this
      refine ⟨_, Eq.trans ?_ this⟩
      simp [Addr.add]
    obtain ⟨v0, c0⟩ := c0
    obtain rfl : sp = none := World.cell?_spot c0
    have cell : ∀ i j, i < cap → j < P.cellsOf e → w.cell? ⟨b, off + (i * P.cellsOf e + j), none⟩ = some ((f i).1.getD j undef) := fun i j hi hj => by
      obtain ⟨_, hlen, hc⟩ := World.cells?_some (hf i hi).1
      have := hc j hj
      rw [List.getElem?_eq_getElem (by omega)] at this
      simp only [List.getD, List.getElem?_eq_getElem (show j < (f i).1.length by omega), Option.getD_some]
      rw [← this]
      congr 1
      unfold Addr.add
      by_cases h1 : i * P.cellsOf e = 0 <;> by_cases h2 : j = 0 <;> simp [h1, h2, Nat.add_assoc]
    have hb : b < w.heap.size := by
      unfold World.cell? at c0
      split at c0
      · rename_i he; exact blk_lt_of_heap he
      · cases c0
    have hlenf : ∀ i, i < cap → (f i).2.length = P.cellsOf e ∧ (f i).1.length = P.cellsOf e := fun i hi => by
      obtain ⟨_, hlen, _⟩ := World.cells?_some (hf i hi).1
      exact ⟨(hf i hi).2.len.trans hlen, hlen⟩
    have hlen : ((List.range len).map fun i => (f i).2).length = len := by simp
    have get : ∀ i, i < len → ((List.range len).map fun i => (f i).2).getD i [] = (f i).2 := fun i hi => by simp [List.getD, hi]
    have mem : ∀ r, r ∈ ((List.range len).map fun i => (f i).2) → ∃ i, i < len ∧ r = (f i).2 := fun r hr => by
      obtain ⟨i, hi, rfl⟩ := List.mem_map.1 hr
      exact ⟨i, List.mem_range.1 hi, rfl⟩
    refine ⟨[.s ((List.range len).map fun i => (f i).2)], Good.one (.slice hu (by rw [hlen]; omega) (fun r hr => ?_) (fun r hr => ?_)) ?_ rfl⟩
    · obtain ⟨i, hi, rfl⟩ := mem r hr
      exact (hlenf i (by omega)).1
    · obtain ⟨i, hi, rfl⟩ := mem r hr
      exact (hf i (by omega)).2.dat
    · have := RdI.s (w := w) (F := Old w) (rows := (List.range len).map fun i => (f i).2) (b := b) (off := off) (c := cap) (k := P.cellsOf e) (u := fun i j => (f i).1.getD j undef) hb (by rw [hlen]; exact hlc) hcm
        (fun i hi => by rw [hlen] at hi; rw [get i hi]; exact (hlenf i (by omega)).1)
        (fun i j hi hj => cell i j (by rw [hlen] at hi; omega) hj)
        (fun i j hi hj => by rw [hlen] at hi; exact ((hf i (by omega)).2.rd j (by rw [(hlenf i (by omega)).2]; exact hj)).2)
        (fun i j hi hj => by rw [hlen] at hi; rw [get i hi]; exact ((hf i (by omega)).2.rd j (by rw [(hlenf i (by omega)).2]; exact hj)).1)
      rwa [hlen] at this

theorem good_trod (hl : laidOutB P = true) : ∀ (n : Nat) (t : TypeId) (cs : List Value) (x : DataW H × List MemPlace), PlainT P t →
    DataW.trod enc P w base (fun _ => true) held n t cs = some x → ∃ xs, Good P w (Dat P t) cs xs := by
  intro n
  induction n with
  | zero => intro t cs x _ h; simp [DataW.trod] at h
  | succ n ih =>
    intro t cs x hp h
    have hp' := hp
    obtain ⟨ht, m, hm⟩ := hp'
    cases m with
    | zero => cases hm
    | succ m =>
      cases hu : P.underlying t with
      | none => simp [plainTy, hu] at hm
      | some d =>
        cases d with
        | bool =>
          simp only [DataW.trod, hu] at h
          split at h <;> simp_all
          exact ⟨_, Good.one (.bool hu) (.v (.inl rfl)) rfl⟩
        | int k =>
          simp only [DataW.trod, hu] at h
          split at h <;> simp_all
          obtain ⟨⟨rfl, hw⟩, _⟩ := h
          exact ⟨_, Good.one (.int hu hw) (.v (.inl rfl)) rfl⟩
        | string =>
          simp only [DataW.trod, hu] at h
          split at h <;> simp_all
          exact ⟨_, Good.one (.str hu h.1) (.v (.inl rfl)) rfl⟩
        | slice e =>
          obtain ⟨he, hk⟩ := hp.slice hl hu
          rw [DataW.trod_step] at h
          unfold DataW.trodStep at h
          rw [hu] at h
          split at h
          case h_7 => exact ⟨_, Good.one (.slice (rows := []) hu (Nat.zero_le _) (fun _ h => by cases h) (fun _ h => by cases h)) .s0 rfl⟩
          case h_8 e' a len cap e1 =>
            cases e1
            simp only at h
            split at h
            case isFalse => cases h
            case isTrue hb =>
            obtain ⟨_, hlc, hcm⟩ := hb
            cases hel : List.mapM (fun i => (w.cells? base (a.add (i * P.cellsOf e)) (P.cellsOf e)).bind (DataW.trod enc P w base (fun x => true) held n e)) (List.range len) with
            | none => rw [hel] at h; cases h
            | some elems =>
            rw [hel] at h
            simp only [Option.bind_some, if_true, Option.map_eq_some_iff] at h
            obtain ⟨rest, hrest, _⟩ := h
            exact good_slice hu hk hlc hcm fun i hi => by
              by_cases hil : i < len
              · obtain ⟨y, hy⟩ := mapM_some_of_mem hel (List.mem_range.2 hil)
                obtain ⟨ci, hc, hy⟩ := Option.bind_eq_some_iff.1 hy
                exact ⟨ci, hc, ih _ _ _ he hy⟩
              · obtain ⟨y, hy⟩ := mapM_some_of_mem hrest (List.mem_range.2 (show i - len < cap - len by omega))
                rw [show len + (i - len) = i by omega] at hy
                obtain ⟨ci, hc, hy⟩ := Option.bind_eq_some_iff.1 hy
                exact ⟨ci, hc, ih _ _ _ he hy⟩
          all_goals first | (rename_i e1; cases e1; done) | (rename_i e1 _; cases e1; done) | cases h
        | struct fs =>
          obtain ⟨h1, h2, h3⟩ := hp.struct hl hu
          rw [DataW.trod_step] at h
          unfold DataW.trodStep at h
          rw [hu] at h
          simp only at h
          split at h
          case isFalse => cases h
          case isTrue hcs =>
          obtain ⟨l, hml, _⟩ := Option.map_eq_some_iff.1 h
          obtain ⟨xs, hg⟩ := good_fields (fun t cs x => ih t cs x) fs.toList 0 cs h1 (fun j f hf => by rw [Nat.zero_add]; exact h3 j f hf) (by rw [Nat.zero_add, ← h2]; exact hcs)
            fun f hf => mapM_some_of_mem hml hf
          exact ⟨xs, hg.len, .struct hu hg.dat, hg.rd⟩
        | _ => simp [plainTy, hu] at hm

theorem datV_of (hl : laidOutB P = true) {t : TypeId} {v : Value} {d : DataW H} {p : List MemPlace} {b0 : Nat} (hp : PlainT P t) (hok : Value.okWide P w .any b0 t v) (h : DataW.Trod enc P w base (fun _ => true) held t v d p) :
    ∃ x, DatV P t x ∧ RdI w (Old w) x v := by
  obtain ⟨n, hn⟩ := h
  obtain ⟨xs, hg⟩ := good_trod hl n t _ _ hp hn
  by_cases hs : ∃ fs, P.underlying t = some (.struct fs)
  · obtain ⟨fs, hu⟩ := hs
    simp only [Value.okWide, hu] at hok
    obtain ⟨cs, rfl, _, _⟩ := hok
    have hcl : cs.toList.length = cs.size := by simp
    have get : ∀ i, cs.getD i undef = cs.toList.getD i undef := fun i => by simp [Array.getD_eq_getD_getElem?, List.getD]
    refine ⟨.a xs, ?_, .a (by rw [hg.len]; simp [Value.cells]) (fun i hi => ?_) fun i hi => ?_⟩
    · simp only [DatV, hu]; exact ⟨xs, rfl, hg.dat⟩
    · rw [get]; exact (hg.rd i (by rw [← hg.len]; exact hi)).2
    · rw [get]; exact (hg.rd i (by rw [← hg.len]; exact hi)).1
  · have hcell : v.cells.toList = [v] := by
      cases v with
      | agg cs =>
        have ha : ∀ fs, P.underlying t ≠ some (.struct fs) := fun fs he => hs ⟨fs, he⟩
        have hb := hp.no.2.1
        unfold Value.okWide at hok
        split at hok
        · rename_i he; exact (ha _ he).elim
        · rename_i he; exact (hb _ _ he).elim
        · unfold Cell.okWide at hok
          split at hok <;> first | contradiction | (unfold Cell.ok at hok; split at hok <;> first | contradiction | cases hok)
      | _ => rfl
    rw [hcell] at hg
    obtain ⟨x, rfl⟩ : ∃ x, xs = [x] := by
      have := hg.len
      match xs, this with
      | [x], _ => exact ⟨x, rfl⟩
    refine ⟨x, ?_, (hg.rd 0 (by simp)).1⟩
    unfold DatV
    split
    · rename_i he; exact (hs ⟨_, he⟩).elim
    · exact hg.dat

theorem datL_of (hl : laidOutB P = true) : ∀ {ts : List TypeId} {vs : List Value} {ds : List (DataW H)} {ps : List MemPlace}, DataW.TrodAll enc P w base (fun _ => true) held ts vs ds ps → (∀ t, t ∈ ts → PlainT P t) →
    (∀ (j : Nat) t v, ts[j]? = some t → vs[j]? = some v → Value.okWide P w .any base t v) →
    ∃ xs, DatL P ts xs ∧ xs.length = vs.length ∧ ∀ i, i < xs.length → RdI w (Old w) (xs.getD i .junk) (vs.getD i undef)
  | [], vs, ds, ps, h, _, _ => by
    obtain ⟨rfl, rfl, rfl⟩ := trodAll_nil h
    exact ⟨[], .nil, rfl, fun i hi => by simp at hi⟩
  | t :: ts, vs, ds, ps, h, hp, hok => by
    obtain ⟨v, vs', d, ds', p, q, rfl, rfl, rfl, h1, h2⟩ := trodAll_cons h
    obtain ⟨x, hx, hr⟩ := datV_of hl (hp t (by simp)) (hok 0 t v rfl rfl) h1
    obtain ⟨xs, hxs, hlen, hrs⟩ := datL_of hl h2 (fun t ht => hp t (by simp [ht])) fun j t v ht hv => hok (j + 1) t v (by simpa using ht) (by simpa using hv)
    refine ⟨x :: xs, .cons hx hxs, by simp [hlen], fun i hi => ?_⟩
    cases i with
    | zero => simpa using hr
    | succ i => simpa using hrs i (by simpa using hi)

theorem trodAll_stays {w' : World} (hl : laidOutB P = true) (hb : Below w.heap.size w w') {sp : Nat → Bool} : ∀ {ts : List TypeId} {vs : List Value} {ds : List (DataW H)} {ps : List MemPlace},
    DataW.TrodAll enc P w 0 (fun _ => true) true ts vs ds ps → (∀ t, t ∈ ts → PlainT P t) → (∀ p, p ∈ ps → sp p.block = true) → DataW.TrodAll enc P w' 0 sp true ts vs ds ps
  | [], vs, ds, ps, h, _, _ => by
    obtain ⟨rfl, rfl, rfl⟩ := trodAll_nil h
    exact rfl
  | t :: ts, vs, ds, ps, h, hp, hs => by
    have hlt := h.lt
    obtain ⟨v, vs', d, ds', p, q, rfl, rfl, rfl, ⟨n, h1⟩, h2⟩ := trodAll_cons h
    refine ⟨p, q, ⟨n, ?_⟩, trodAll_stays hl hb h2 (fun t ht => hp t (by simp [ht])) fun p hp' => hs p (by simp [hp']), rfl⟩
    refine DataW.trod_stays (plain_kids hl) (fun hT hu => (hT.slice hl hu).2) (fun hf => by cases hf) (hp t (by simp)) h1 (fun p' hp' => ?_) fun p' hp' => hs p' (by simp [hp'])
    have hb' := hb.block p'.block (hlt p' (by simp [hp']))
    cases p' with
    | cell b off => exact World.cell?_of_block (w := w) hb'
    | map b => exact hb'

theorem keptBut_below {w' : World} (hb : Below w.heap.size w w') (may : MemPlace → Prop) : w.keptBut w' may := by
  refine ⟨hb.os, hb.output, fun i hi => ?_⟩
  rw [hb.block i hi]
  cases w.heap[i]? with
  | none => rfl
  | some o => cases o <;> simp

/-- The law answers true whatever plain data it is handed: its row's form. -/
theorem law_handed {C : Checked} {os : Os} {f : FuncId} {fn : Func} {s : ChangeSpec} {tb : TypeId} (hl : laidOutB C.prog = true) (own : ownKnob C.prog.godebug = none) (started : os.Started) (noInit : C.prog.inits.idxOf? f = none) (hfn : C.prog.funcs[f]? = some fn)
    (witness : ∃ (w : World) (tape : Tape) (i : Input), w.os = os ∧ (w.forCall tape i).Shaped C.prog ∧ i.vars = [] ∧ Input.okWide C.prog (w.forCall tape i) .any w.heap.size f i ∧
      s.pre6 enc C.prog fn [] false (w.forCall tape i).memory i.args ∧ ({} : Assume).holds C.prog (lone (Frame.enter C.prog f i.args .normal) [] (w.forCall tape i)))
    (hv : s.vars = []) (hs : ∀ ds : List (DataW H), ds.length = fn.params.toList.length → s.fn H ds = { results := [.lit (.bool true)], args := ds })
    (hr : fn.resultTypes = #[tb]) (htb : C.prog.underlying tb = some .bool) (hpl : fn.params.toList.all (fun t => Nat.blt t C.prog.types.size && plainTy C.prog 12 t) = true)
    (h : ∀ xs, DatL C.prog fn.params.toList xs → Pure C.prog f xs (.v (.bool true))) :
    ReturnsInHanded {} C os f .any (s.pre6 enc C.prog fn [] false) (s.post enc C.prog fn false true false false) := by
  refine returnsInHanded_of_change (C := C) own started noInit hfn witness ?_
  intro W base args ds gs before hval hW _ _
  have hW' := hW
  obtain ⟨p, q, hA, hV, rfl, hfz, hnd⟩ := hW
  have hpt : ∀ t, t ∈ fn.params.toList → PlainT C.prog t := fun t ht => by
    have := List.all_eq_true.1 hpl t ht
    simp only [Bool.and_eq_true, Nat.blt_eq] at this
    exact ⟨this.1, _, this.2⟩
  rw [hv] at hV
  obtain ⟨rfl, rfl⟩ := trodVars_none hV
  obtain ⟨xs, hxs, hlen, hrd⟩ := datL_of hl hA hpt fun j t v ht hv => Value.okWide_any_base (hval j t v (by simpa using ht) (by simpa using hv))
  have hI : Inv W (Old W) (fun _ => undef) [] :=
    ⟨fun _ h => h, fun _ _ hm => (List.not_mem_nil hm).elim, List.nodup_nil, fun _ ⟨_, _, hm, _⟩ => (List.not_mem_nil hm).elim, fun _ _ _ _ _ hm => (List.not_mem_nil hm).elim⟩
  refine ((h xs hxs).2 W (Old W) (fun _ => undef) args hI (by rw [hlen]; simp) fun i hi => .i ?_).mono ?_
  · have := hrd i hi
    have e : args.getD i undef = args.toList.getD i undef := by simp [Array.getD_eq_getD_getElem?, List.getD]
    rw [e]; exact this
  rintro e W' ⟨v, rfl, hb, hx⟩
  cases hx
  have hds : ds.length = fn.params.toList.length := by
    have : ∀ {ts : List TypeId} {vs : List Value} {ds : List (DataW H)} {ps : List MemPlace}, DataW.TrodAll enc C.prog W 0 (fun _ => true) true ts vs ds ps → ds.length = ts.length := by
      intro ts
      induction ts with
      | nil => intro vs ds ps h; obtain ⟨rfl, rfl, rfl⟩ := trodAll_nil h; rfl
      | cons t ts ih => intro vs ds ps h; obtain ⟨v, vs', d, ds', p, q, rfl, rfl, rfl, h1, h2⟩ := trodAll_cons h; simp [ih h2]
    exact this hA
  have hold : ∀ q, q ∈ p → (fun b => decide (b < W.heap.size)) q.block = true := fun q hq => by simpa using hW'.lt q (by simp [hq])
  refine ⟨_, rfl, ds, [], p ++ [], [], p, [], hW', ?_, ?_, ?_, keptBut_below hb _, fun h => by cases h⟩
  · rw [List.append_nil, hs ds hds, hr]
    exact trodAll_mk1 (shut_bool htb true)
  · rw [List.append_nil, hs ds hds]
    exact trodAll_stays hl hb hA hpt hold
  · rw [List.append_nil, hs ds hds, hv]
    exact rfl
end
end Go.Cat
