/- Spans, plain: sums, differences. No condition. -/
import Derived.Test.YthhoomhekolbnaaXLeaseHasP22a
import Derived.Test.YthhoomhekolbnaaCatP5
namespace Go.Proofs
set_option linter.all false
open Go Go.Cat
set_option linter.all false

/-- Which places count. -/
def opP (how : Int) (x y : Prop) : Prop := (how = 1 ∧ (x ∨ y)) ∨ (how = 2 ∧ x ∧ ¬ y) ∨ (how = 3 ∧ x ∧ y)
theorem opP_iff {how : Int} {x y x' y' : Prop} (h : x ↔ x') (h' : y ↔ y') : opP how x y ↔ opP how x' y' := by unfold opP; rw [h, h']
theorem opP_or {how : Int} {x y : Prop} (h : opP how x y) : x ∨ y := by
  rcases h with ⟨_, h⟩ | ⟨_, h, _⟩ | ⟨_, h, _⟩
  · exact h
  · exact .inl h
  · exact .inl h

/-- A piece more. -/
theorem In_snoc {l : List api_Span} {s : api_Span} {p : Int} : In (l ++ [s]) p ↔ In l p ∨ InS s p := by
  rw [In_append, In_cons]; simp [In_nil]



noncomputable def genB (cl : Bool → Bool → Option Bool) (x3 : List span_edge) (s1 : Int × Int × (List api_Span) × (List Int)) : Option ((Int × Int × (List api_Span) × (List Int)) ⊕ ((List api_Span))) := if (decide (s1.2.1 < (x3.length : Int))) then ((idx x3 s1.2.1).bind fun x4 => (if (!x4.begins_) then some ((-1)) else some (1)).bind fun v3 => (idx s1.2.2.2 x4.set_).bind fun x5 => chk (x4.set_ < 2) (chk (InI64 (x5 + v3)) ((idx s1.2.2.2 x4.set_).bind fun _ => chk (x4.set_ < 2) ((chk (InI64 (s1.2.1 + 1)) ((if (decide ((s1.2.1 + 1) < (x3.length : Int))) then chk (InI64 (s1.2.1 + 1)) ((idx x3 ((s1.2.1 + 1))).bind fun x7 => some ((x7.at_ == x4.at_))) else some false).bind fun c1 => some c1)).bind fun v4 => if v4 then some ((s1.1, s1.2.2.1, (s1.2.2.2.set x4.set_.toNat ((x5 + v3))))) else (idx ((s1.2.2.2.set x4.set_.toNat ((x5 + v3)))) (0)).bind fun x8 => (idx ((s1.2.2.2.set x4.set_.toNat ((x5 + v3)))) (1)).bind fun x9 => (cl ((decide (x8 > 0))) ((decide (x9 > 0)))).bind fun x10 => (((if x10 then some ((decide (s1.1 < 0))) else some false).bind fun c2 => some c2).bind fun v6 => if v6 then some x4.at_ else some s1.1).bind fun v5 => ((if (!x10) then some ((decide (v5 ≥ 0))) else some false).bind fun c3 => some c3).bind fun v7 => if v7 then chk ((s1.2.2.1.length + ([(⟨v5, x4.at_⟩ : api_Span)]).length) * 16 ≤ 140737488355328) (some (((-1), (s1.2.2.1 ++ [(⟨v5, x4.at_⟩ : api_Span)]), (s1.2.2.2.set x4.set_.toNat ((x5 + v3)))))) else some ((v5, s1.2.2.1, (s1.2.2.2.set x4.set_.toNat ((x5 + v3))))))))).bind fun v2 => chk (InI64 (s1.2.1 + 1)) (some (.inl ((v2.1, (s1.2.1 + 1), v2.2.1, v2.2.2)))) else out (some s1.2.2.1)

def sg (e : span_edge) : Int := if e.begins_ then 1 else -1
def wt (k p : Int) (e : span_edge) : Int := if e.set_ = k ∧ e.at_ ≤ p then sg e else 0
def cnt (l : List span_edge) (k p : Int) : Int := (l.map (wt k p)).sum
def wt0 (k : Int) (e : span_edge) : Int := if e.set_ = k then sg e else 0
def cnt0 (l : List span_edge) (k : Int) : Int := (l.map (wt0 k)).sum

theorem cnt_append (a b : List span_edge) (k p : Int) : cnt (a ++ b) k p = cnt a k p + cnt b k p := by simp [cnt]
theorem cnt_perm {a b : List span_edge} (h : a.Perm b) (k p : Int) : cnt a k p = cnt b k p := by
  unfold cnt
  induction h with
  | nil => rfl
  | cons x _ ih => simp [ih]
  | swap x y l => simp only [List.map_cons, List.sum_cons]; omega
  | trans _ _ ih1 ih2 => rw [ih1, ih2]
theorem cnt_cnt0 {l : List span_edge} {k p : Int} (h : ∀ e, e ∈ l → e.at_ ≤ p) : cnt l k p = cnt0 l k := by
  unfold cnt cnt0
  induction l with
  | nil => rfl
  | cons e l ih =>
    simp only [List.map_cons, List.sum_cons]
    rw [ih fun e he => h e (by simp [he])]
    have := h e (by simp)
    unfold wt wt0
    simp [this]
theorem cnt_zero {l : List span_edge} {k p : Int} (h : ∀ e, e ∈ l → p < e.at_) : cnt l k p = 0 := by
  unfold cnt
  induction l with
  | nil => rfl
  | cons e l ih =>
    simp only [List.map_cons, List.sum_cons]
    rw [ih fun e he => h e (by simp [he])]
    have := h e (by simp)
    unfold wt
    rw [if_neg (by omega)]; rfl
theorem cnt0_bnd (k : Int) : ∀ l : List span_edge, -(l.length : Int) ≤ cnt0 l k ∧ cnt0 l k ≤ l.length
  | [] => by simp [cnt0]
  | e :: l => by
    have := cnt0_bnd k l
    unfold cnt0 at *
    simp only [List.map_cons, List.sum_cons, List.length_cons]
    have : -1 ≤ wt0 k e ∧ wt0 k e ≤ 1 := by
      unfold wt0 sg
      split
      · split <;> omega
      · omega
    omega
theorem cnt0_snoc (l : List span_edge) (e : span_edge) (k : Int) : cnt0 (l ++ [e]) k = cnt0 l k + wt0 k e := by simp [cnt0]

def edgesL (l : List api_Span) (k : Int) : List span_edge := l.flatMap fun s => if max s.From 0 < min s.To 1099511627776 then [⟨max s.From 0, k, true⟩, ⟨min s.To 1099511627776, k, false⟩] else []

theorem edgesL_ok (l : List api_Span) (k : Int) : ∀ e, e ∈ edgesL l k → e.set_ = k ∧ 0 ≤ e.at_ ∧ e.at_ ≤ 1099511627776 := by
  intro e he
  unfold edgesL at he
  obtain ⟨s, _, he⟩ := List.mem_flatMap.1 he
  split at he
  · rcases List.mem_cons.1 he with rfl | he
    · dsimp only; omega
    · rw [List.mem_singleton.1 he]; dsimp only; omega
  · cases he
theorem cnt_edges (l : List api_Span) (k p : Int) : 0 ≤ cnt (edgesL l k) k p ∧ (0 < cnt (edgesL l k) k p ↔ In l p) := by
  induction l with
  | nil => exact ⟨Int.le_refl _, ⟨fun h => by simp [edgesL, cnt] at h, fun h => (In_nil p h).elim⟩⟩
  | cons s l ih =>
    have e : edgesL (s :: l) k = (if max s.From 0 < min s.To 1099511627776 then [⟨max s.From 0, k, true⟩, ⟨min s.To 1099511627776, k, false⟩] else []) ++ edgesL l k := by simp [edgesL]
    have h1 : cnt (if max s.From 0 < min s.To 1099511627776 then [⟨max s.From 0, k, true⟩, ⟨min s.To 1099511627776, k, false⟩] else []) k p = if InS s p then 1 else 0 := by
      split
      · simp only [cnt, List.map_cons, List.map_nil, List.sum_cons, List.sum_nil, wt, sg, true_and, if_true, Bool.false_eq_true, if_false]
        by_cases hi : InS s p
        · rw [if_pos hi]; unfold InS at hi; rw [if_pos (by omega), if_neg (by omega)]; rfl
        · rw [if_neg hi]; unfold InS at hi
          by_cases h1 : max s.From 0 ≤ p
          · rw [if_pos h1, if_pos (by omega)]; rfl
          · rw [if_neg h1, if_neg (by omega)]; rfl
      · rw [if_neg (by unfold InS; omega)]; rfl
    rw [e, cnt_append, h1, In_cons]
    split
    · rename_i h; exact ⟨by omega, ⟨fun _ => .inl h, fun _ => by omega⟩⟩
    · rename_i h
      refine ⟨by omega, ?_⟩
      rw [Int.zero_add, ih.2]
      exact ⟨.inr, fun h' => h'.elim (fun h' => (h h').elim) id⟩
theorem cnt_other {l : List span_edge} {j k p : Int} (h : ∀ e, e ∈ l → e.set_ = j) (hjk : j ≠ k) : cnt l k p = 0 := by
  unfold cnt
  induction l with
  | nil => rfl
  | cons e l ih =>
    simp only [List.map_cons, List.sum_cons]
    rw [ih fun e he => h e (by simp [he])]
    have := h e (by simp)
    unfold wt
    rw [if_neg (by omega)]; rfl

theorem edgesL_len (l : List api_Span) (k : Int) : (edgesL l k).length ≤ 2 * l.length := by
  induction l with
  | nil => simp [edgesL]
  | cons s l ih =>
    have e : edgesL (s :: l) k = (if max s.From 0 < min s.To 1099511627776 then [⟨max s.From 0, k, true⟩, ⟨min s.To 1099511627776, k, false⟩] else []) ++ edgesL l k := by simp [edgesL]
    rw [e, List.length_append, List.length_cons]
    split <;> simp <;> omega

theorem t_edges (l : List api_Span) (k : Int) (hl : l.length ≤ 10000) : span_edges l k = some (edgesL l k) := by
  refine Tot.eq ?_
  unfold span_edges span_edges_L1
  refine Tot.bind (R := (· = edgesL l k)) ?_ fun _ h => Tot.ret h
  refine Tot.loop (fun s : Int × List span_edge => ∃ n : Nat, s.1 = n ∧ n ≤ l.length ∧ s.2 = edgesL (l.take n) k) (fun s => l.length - s.1.toNat) ?_ (0, []) ⟨0, rfl, by omega, rfl⟩
  rintro ⟨s, o⟩ ⟨n, h, hn, ho⟩
  dsimp only at h ho
  subst h ho
  have hlen := edgesL_len (l.take n) k
  have hlen' : (l.take n).length ≤ l.length := by simp; omega
  unfold span_edges_B1
  refine Tot.ite (fun h => ?_) (fun h => ?_)
  · have hlt : n < l.length := by simp at h; omega
    have hx := getLt hlt
    refine Tot.bind (R := (· = edgesL (l.take (n + 1)) k)) ?_ fun v hv => Tot.chk (by unfold InI64; dsimp only; omega) (Tot.inl ⟨⟨n + 1, rfl, by omega, hv⟩, by dsimp only; omega⟩)
    refine Tot.bindeq (idx_some hx) ?_
    have e : edgesL (l.take (n + 1)) k = edgesL (l.take n) k ++ (if max l[n].From 0 < min l[n].To 1099511627776 then [⟨max l[n].From 0, k, true⟩, ⟨min l[n].To 1099511627776, k, false⟩] else []) := by
      unfold edgesL
      rw [List.take_succ_eq_append_getElem hlt, List.flatMap_append, List.flatMap_cons, List.flatMap_nil, List.append_nil]
    rw [e]
    refine Tot.ite (fun h => ?_) (fun h => ?_)
    · have h := of_decide_eq_true h
      rw [if_pos h]
      exact Tot.chk (by simp; omega) (Tot.ret rfl)
    · have h : ¬ (max l[n].From 0 < min l[n].To 1099511627776) := fun h' => h (decide_eq_true h')
      rw [if_neg h]
      exact Tot.ret (by rw [List.append_nil])
  · have : n = l.length := by simp at h; omega
    subst this
    exact Tot.out (Tot.ret (by simp))

def ecmp (x y : span_edge) : Int := if x.at_ < y.at_ then -1 else if x.at_ > y.at_ then 1 else 0
theorem ecmp_lt (x y : span_edge) : ecmp x y < 0 ↔ x.at_ < y.at_ := by
  unfold ecmp; split
  · simp [*]
  · split <;> simp [*]
theorem t_cmp : CmpIs span_asked_of_1 ecmp := by
  refine ⟨fun x y => ?_, ⟨fun x => ?_, fun x y z h1 h2 => ?_, fun x y z h1 h2 => ?_⟩⟩
  · unfold span_asked_of_1 cmp_Compare_int cmp_isNaN_int ecmp
    simp
    split
    · rfl
    · split <;> rfl
  · simp [ecmp_lt]
  · simp [ecmp_lt] at *; omega
  · simp [ecmp_lt] at *; omega

theorem set2 {a b : Int} {k v : Int} (hk : k = 0 ∨ k = 1) : ([a, b].set k.toNat v) = [if k = 0 then v else a, if k = 1 then v else b] := by
  rcases hk with rfl | rfl <;> rfl
theorem get2 {a b : Int} {k : Int} (hk : k = 0 ∨ k = 1) : idx [a, b] k = some (if k = 0 then a else b) := by
  rcases hk with rfl | rfl <;> rfl

/-- The round by round. -/
theorem t_gen (cl : Bool → Bool → Option Bool) (op : Bool → Bool → Bool) (hcl : ∀ x y, cl x y = some (op x y)) (h00 : op false false = false) (l : List span_edge) (hl : l.length ≤ 100000)
    (hs : l.Pairwise fun x y => x.at_ ≤ y.at_) (hok : ∀ e, e ∈ l → (e.set_ = 0 ∨ e.set_ = 1) ∧ 0 ≤ e.at_ ∧ e.at_ ≤ 1099511627776)
    (hin : ∀ p, op (decide (0 < cnt l 0 p)) (decide (0 < cnt l 1 p)) = true → 0 ≤ p ∧ p < 1099511627776) :
    Tot (loop (genB cl l) (-1, 0, [], List.replicate 2 0)) (fun r => OrdS r ∧ (∀ p, In r p ↔ op (decide (0 < cnt l 0 p)) (decide (0 < cnt l 1 p)) = true) ∧ r.length ≤ l.length) := by
  have hpw := List.pairwise_iff_getElem.1 hs
  have hle : ∀ {i j : Nat} {x y : span_edge}, l[i]? = some x → l[j]? = some y → i ≤ j → x.at_ ≤ y.at_ := fun {i j x y} hi hj hij => by
    rcases Nat.lt_or_eq_of_le hij with h | h
    · obtain ⟨hi1, rfl⟩ := List.getElem?_eq_some_iff.1 hi
      obtain ⟨hj1, rfl⟩ := List.getElem?_eq_some_iff.1 hj
      exact hpw i j hi1 hj1 h
    · subst h; rw [hi] at hj; cases hj; exact Int.le_refl _
  refine Tot.loop (fun s : Int × Int × List api_Span × List Int => ∃ (n : Nat) (B : Int), s.2.1 = n ∧ n ≤ l.length ∧ s.2.2.2 = [cnt0 (l.take n) 0, cnt0 (l.take n) 1] ∧ (∀ e, l[n]? = some e → e.at_ = B) ∧ (n = l.length → B = 1099511627777) ∧
      OrdS s.2.2.1 ∧ (∀ t, t ∈ s.2.2.1 → t.To < B ∧ (0 ≤ s.1 → t.To < s.1)) ∧ s.1 < B ∧ -1 ≤ s.1 ∧ s.2.2.1.length ≤ n ∧
      ∀ p, p < B → (In s.2.2.1 p ∨ (0 ≤ s.1 ∧ s.1 ≤ p) ↔ op (decide (0 < cnt l 0 p)) (decide (0 < cnt l 1 p)) = true)) (fun s => l.length - s.2.1.toNat) ?_ (-1, 0, [], List.replicate 2 0) ?_
  · rintro ⟨fr, s, out, deep⟩ ⟨n, B, h, hn, hd, hB, hBe, ho, hto, hfr, hfr1, hol, hp⟩
    dsimp only at h hd ho hto hfr hfr1 hol hp
    subst h hd
    unfold genB
    refine Tot.ite (fun h => ?_) (fun h => ?_)
    · have hlt : n < l.length := by simp at h; omega
      have hx := getLt hlt
      generalize l[n] = e at hx
      obtain ⟨hset, hat0, hat1⟩ := hok e (getR hx).2
      obtain rfl := hB e hx
      have hb0 := cnt0_bnd 0 (l.take n)
      have hb1 := cnt0_bnd 1 (l.take n)
      have hbl : (l.take n).length ≤ l.length := by simp; omega
      have hsn : l.take (n + 1) = l.take n ++ [e] := by
        rw [List.take_succ_eq_append_getElem hlt]; rw [getLt hlt] at hx; cases hx; rfl
      have hd0 : cnt0 (l.take (n + 1)) 0 = if e.set_ = 0 then cnt0 (l.take n) 0 + sg e else cnt0 (l.take n) 0 := by
        rw [hsn, cnt0_snoc]; unfold wt0; split <;> omega
      have hd1 : cnt0 (l.take (n + 1)) 1 = if e.set_ = 1 then cnt0 (l.take n) 1 + sg e else cnt0 (l.take n) 1 := by
        rw [hsn, cnt0_snoc]; unfold wt0; split <;> omega
      have hsg : sg e = 1 ∨ sg e = -1 := by unfold sg; split <;> simp
      refine Tot.bind (R := fun v : Int × List api_Span × List Int => ∃ B' : Int, v.2.2 = [cnt0 (l.take (n + 1)) 0, cnt0 (l.take (n + 1)) 1] ∧ (∀ e, l[n + 1]? = some e → e.at_ = B') ∧ (n + 1 = l.length → B' = 1099511627777) ∧
        OrdS v.2.1 ∧ (∀ t, t ∈ v.2.1 → t.To < B' ∧ (0 ≤ v.1 → t.To < v.1)) ∧ v.1 < B' ∧ -1 ≤ v.1 ∧ v.2.1.length ≤ n + 1 ∧
        ∀ p, p < B' → (In v.2.1 p ∨ (0 ≤ v.1 ∧ v.1 ≤ p) ↔ op (decide (0 < cnt l 0 p)) (decide (0 < cnt l 1 p)) = true)) ?_ fun v ⟨B', g1, g2, g3, g4, g5, g6, g7, g8, g9⟩ =>
          Tot.chk (by unfold InI64; dsimp only; omega) (Tot.inl ⟨⟨n + 1, B', rfl, by omega, g1, g2, g3, g4, g5, g6, g7, g8, g9⟩, by dsimp only; omega⟩)
      refine Tot.bindeq (idx_some hx) (Tot.bind (R := (· = sg e)) (by unfold sg; cases e.begins_ <;> exact Tot.ret rfl) fun v3 h3 => ?_)
      subst h3
      dsimp only
      refine Tot.bindeq (get2 hset) (Tot.chk (by omega) (Tot.chk (by unfold InI64; split <;> omega) (Tot.bindeq (get2 hset) (Tot.chk (by omega) ?_))))
      rw [set2 hset]
      have hdeep : [if e.set_ = 0 then (if e.set_ = 0 then cnt0 (l.take n) 0 else cnt0 (l.take n) 1) + sg e else cnt0 (l.take n) 0, if e.set_ = 1 then (if e.set_ = 0 then cnt0 (l.take n) 0 else cnt0 (l.take n) 1) + sg e else cnt0 (l.take n) 1] = [cnt0 (l.take (n + 1)) 0, cnt0 (l.take (n + 1)) 1] := by
        rw [hd0, hd1]
        rcases hset with h | h <;> simp [h]
      rw [hdeep]
      refine Tot.bind (R := Tells (∃ y, l[n + 1]? = some y ∧ y.at_ = e.at_)) ?_ fun v4 h4 => ?_
      · refine Tot.chk (by unfold InI64; omega) (Tot.bind (R := Tells (((n : Int) + 1 < l.length) ∧ ∃ y, l[n + 1]? = some y ∧ y.at_ = e.at_)) ?_ fun c hc => Tot.ret (hc.iff ⟨fun h => h.2, fun h => ⟨by obtain ⟨y, hy, _⟩ := h; have := (getR hy).1; omega, h⟩⟩))
        refine Tot.andI (by simp) fun hlt' => Tot.chk (by unfold InI64; omega) (Tot.bind (Tot.idx (by omega) hlt' fun y hy => hy) fun y hy => Tot.is ?_)
        have hy : l[n + 1]? = some y := by rw [show ((n : Int) + 1).toNat = n + 1 by omega] at hy; exact hy
        rw [hy]; simp
      · refine Tot.ite (fun h => ?_) (fun h => ?_)
        · obtain ⟨y, hy, hya⟩ := h4.1 h
          exact Tot.ret ⟨e.at_, rfl, fun z hz => by rw [hy] at hz; cases hz; exact hya, fun h => by have := (getR hy).1; omega, ho, hto, hfr, hfr1, by dsimp only; omega, hp⟩
        · have hnext : ∃ B' : Int, (∀ e, l[n + 1]? = some e → e.at_ = B') ∧ (n + 1 = l.length → B' = 1099511627777) ∧ e.at_ < B' := by
            cases hy : l[n + 1]? with
            | none => exact ⟨1099511627777, fun z hz => (by cases hz), fun _ => rfl, by omega⟩
            | some y =>
              refine ⟨y.at_, fun z hz => (by cases hz; rfl), fun h => (by have := (getR hy).1; omega), ?_⟩
              have h1 := hle hx hy (by omega)
              have h2 : y.at_ ≠ e.at_ := fun h' => h (h4.2 ⟨y, hy, h'⟩)
              omega
          obtain ⟨B', hB', hBe', hBB⟩ := hnext
          have hconst : ∀ p, e.at_ ≤ p → p < B' → ∀ k, cnt l k p = cnt0 (l.take (n + 1)) k := fun p h1 h2 k => by
            have e1 : cnt l k p = cnt (l.take (n + 1)) k p + cnt (l.drop (n + 1)) k p := by rw [← cnt_append, List.take_append_drop]
            rw [e1, cnt_cnt0 (fun z hz => ?_), cnt_zero (fun z hz => ?_), Int.add_zero]
            · obtain ⟨j, hj⟩ := memR hz
              rw [List.getElem?_drop] at hj
              have hn1 : n + 1 < l.length := by have := (getR hj).1; omega
              have h3 := hle (getLt hn1) hj (by omega)
              have h4 := hB' _ (getLt hn1)
              omega
            · obtain ⟨j, hj⟩ := memR hz
              rw [List.getElem?_take] at hj
              split at hj
              · have := hle hj hx (by omega); omega
              · cases hj
          refine Tot.bindeq (idx_some (n := 0) rfl) (Tot.bindeq (idx_some (n := 1) rfl) (Tot.bindeq (hcl _ _) ?_))
          generalize hv : op (decide (cnt0 (l.take (n + 1)) 0 > 0)) (decide (cnt0 (l.take (n + 1)) 1 > 0)) = v
          have hv' : ∀ p, e.at_ ≤ p → p < B' → op (decide (0 < cnt l 0 p)) (decide (0 < cnt l 1 p)) = v := fun p h1 h2 => by rw [hconst p h1 h2, hconst p h1 h2]; exact hv
          have low : ∀ p, e.at_ ≤ p → ¬ In out p := fun p h1 ⟨t, ht, hp⟩ => by have := (hto t ht).1; unfold InS at hp; omega
          cases v with
          | true =>
            by_cases hf : fr < 0
            · have e1 : decide (fr < 0) = true := decide_eq_true hf
              refine Tot.bindeq (a := e.at_) (by simp [e1]) (Tot.bindeq (a := false) (by simp) (Tot.ncond (by simp) (Tot.ret ⟨B', rfl, hB', hBe', ho, fun t ht => ?_, hBB, by dsimp only; omega, by dsimp only; omega, fun p hpB => ?_⟩)))
              · have := hto t ht; dsimp only; exact ⟨by omega, fun _ => this.1⟩
              · dsimp only
                rcases Int.lt_or_le p e.at_ with h | h
                · rw [← hp p h]
                  constructor
                  · rintro (h' | ⟨_, h'⟩)
                    · exact .inl h'
                    · omega
                  · rintro (h' | ⟨h', _⟩)
                    · exact .inl h'
                    · omega
                · rw [hv' p h hpB]
                  exact ⟨fun _ => rfl, fun _ => .inr ⟨hat0, h⟩⟩
            · have e1 : decide (fr < 0) = false := decide_eq_false hf
              refine Tot.bindeq (a := fr) (by simp [e1]) (Tot.bindeq (a := false) (by simp) (Tot.ncond (by simp) (Tot.ret ⟨B', rfl, hB', hBe', ho, fun t ht => ?_, by dsimp only; omega, hfr1, by dsimp only; omega, fun p hpB => ?_⟩)))
              · have := hto t ht; exact ⟨by omega, this.2⟩
              · dsimp only
                rcases Int.lt_or_le p e.at_ with h | h
                · exact hp p h
                · rw [hv' p h hpB]
                  exact ⟨fun _ => rfl, fun _ => .inr ⟨by omega, by omega⟩⟩
          | false =>
            by_cases hf : fr < 0
            · have e1 : decide (fr ≥ 0) = false := decide_eq_false (by omega)
              refine Tot.bindeq (a := fr) (by simp) (Tot.bindeq (a := false) (by simp [e1]) (Tot.ncond (by simp) (Tot.ret ⟨B', rfl, hB', hBe', ho, fun t ht => ?_, by dsimp only; omega, hfr1, by dsimp only; omega, fun p hpB => ?_⟩)))
              · have := hto t ht; exact ⟨by omega, this.2⟩
              · dsimp only
                rcases Int.lt_or_le p e.at_ with h | h
                · exact hp p h
                · rw [hv' p h hpB]
                  exact ⟨fun h' => h'.elim (fun h' => (low p h h').elim) fun h' => by omega, fun h => (by cases h)⟩
            · have e1 : decide (fr ≥ 0) = true := decide_eq_true (by omega)
              refine Tot.bindeq (a := fr) (by simp) (Tot.bindeq (a := true) (by simp [e1]) (Tot.cond rfl (Tot.chk (by simp; omega) (Tot.ret ⟨B', rfl, hB', hBe', ?_, fun t ht => ?_, by dsimp only; omega, Int.le_refl _, by simp; omega, fun p hpB => ?_⟩))))
              · refine OrdS_snoc.2 ⟨ho, by unfold okS; dsimp only; omega, fun t ht => (hto t ht).2 (by omega)⟩
              · dsimp only at ht ⊢
                rcases List.mem_append.1 ht with ht | ht
                · have := hto t ht; exact ⟨by omega, fun h => by omega⟩
                · rw [List.mem_singleton.1 ht]; exact ⟨hBB, fun h => by omega⟩
              · dsimp only
                rw [In_snoc]
                rcases Int.lt_or_le p e.at_ with h | h
                · rw [← hp p h]
                  unfold InS; dsimp only
                  constructor
                  · rintro ((h' | h') | h')
                    · exact .inl h'
                    · exact .inr ⟨by omega, h'.1⟩
                    · omega
                  · rintro (h' | h')
                    · exact .inl (.inl h')
                    · refine .inl (.inr ?_); omega
                · rw [hv' p h hpB]
                  refine ⟨fun h' => ?_, fun h => (by cases h)⟩
                  rcases h' with (h' | h') | h'
                  · exact (low p h h').elim
                  · unfold InS at h'; dsimp only at h'; omega
                  · omega
    · have : n = l.length := by simp at h; omega
      subst this
      have hBT := hBe rfl
      subst hBT
      have hneg : fr < 0 := by
        rcases Int.lt_or_le fr 0 with h | h
        · exact h
        · have := hin _ ((hp 1099511627776 (by omega)).1 (.inr ⟨h, by omega⟩)); omega
      refine Tot.out (Tot.ret ⟨ho, fun p => ?_, hol⟩)
      dsimp only
      rcases Int.lt_or_le p 1099511627777 with h | h
      · rw [← hp p h]
        exact ⟨.inl, fun h => h.elim id fun h => by omega⟩
      · exact ⟨fun h' => by have := In_range h'; omega, fun h' => by have := hin p h'; omega⟩
  · have hzero : ∀ k, cnt0 (l.take 0) k = 0 := fun k => rfl
    have hneg : ∀ B : Int, (∀ e, e ∈ l → B ≤ e.at_) → ∀ p, p < B → (In [] p ∨ ((0 : Int) ≤ -1 ∧ -1 ≤ p) ↔ op (decide (0 < cnt l 0 p)) (decide (0 < cnt l 1 p)) = true) := fun B hB p hp => by
      rw [cnt_zero (fun e he => by have := hB e he; omega), cnt_zero (fun e he => by have := hB e he; omega)]
      refine ⟨fun h => h.elim (fun h => (In_nil p h).elim) fun h => absurd h.1 (by decide), fun h => ?_⟩
      have e : op (decide ((0 : Int) < 0)) (decide ((0 : Int) < 0)) = op false false := rfl
      rw [e, h00] at h; cases h
    cases hl0 : l[0]? with
    | none =>
      have : l = [] := by simpa using hl0
      subst this
      exact ⟨0, 1099511627777, rfl, Nat.zero_le _, rfl, fun e he => (by cases he), fun _ => rfl, OrdS_nil, fun t ht => (by cases ht), by dsimp only; omega, by dsimp only; omega, Nat.le_refl _, hneg _ fun e he => by cases he⟩
    | some e0 =>
      have hr := hok e0 (getR hl0).2
      refine ⟨0, e0.at_, rfl, Nat.zero_le _, rfl, fun e he => (by rw [hl0] at he; cases he; rfl), fun h => (by have := (getR hl0).1; omega), OrdS_nil, fun t ht => (by cases ht), by dsimp only; omega, by dsimp only; omega, Nat.le_refl _, hneg _ fun e he => ?_⟩
      obtain ⟨j, hj⟩ := memR he
      exact hle hl0 hj (Nat.zero_le _)

theorem t_op (cl : Bool → Bool → Option Bool) (op : Bool → Bool → Bool) (how : Int) (hcl : ∀ x y, cl x y = some (op x y)) (hop : ∀ x y, op x y = true ↔ opP how (x = true) (y = true)) (a b : List api_Span) (ha : a.length ≤ 5000) (hb : b.length ≤ 5000) :
    Tot ((span_edges a 0).bind fun x1 => (span_edges b 1).bind fun x2 => chk ((x1.length + x2.length) * 24 ≤ 140737488355328) ((sortF span_asked_of_1 (x1 ++ x2)).bind fun x3 => (loop (genB cl x3) (-1, 0, [], List.replicate 2 0)).bind fun v1 => some v1))
      (fun r => OrdS r ∧ (∀ p, In r p ↔ opP how (In a p) (In b p)) ∧ r.length ≤ 2 * (a.length + b.length)) := by
  have la := edgesL_len a 0
  have lb := edgesL_len b 1
  refine Tot.bindeq (t_edges a 0 (by omega)) (Tot.bindeq (t_edges b 1 (by omega)) (Tot.chk (by omega) ?_))
  obtain ⟨l, hl, hperm, hsort⟩ := sortF_ok t_cmp (l := edgesL a 0 ++ edgesL b 1) (by simp; omega)
  refine Tot.bindeq hl ?_
  have hlen : l.length ≤ 2 * (a.length + b.length) := by rw [hperm.length_eq]; simp; omega
  have hcnt : ∀ k p, cnt l k p = cnt (edgesL a 0) k p + cnt (edgesL b 1) k p := fun k p => by rw [cnt_perm hperm, cnt_append]
  have h0 : ∀ p, (0 < cnt l 0 p ↔ In a p) := fun p => by
    rw [hcnt, cnt_other (l := edgesL b 1) (j := 1) (fun e he => (edgesL_ok b 1 e he).1) (by decide), Int.add_zero]; exact (cnt_edges a 0 p).2
  have h1 : ∀ p, (0 < cnt l 1 p ↔ In b p) := fun p => by
    rw [hcnt, cnt_other (l := edgesL a 0) (j := 0) (fun e he => (edgesL_ok a 0 e he).1) (by decide), Int.zero_add]; exact (cnt_edges b 1 p).2
  have hiff : ∀ p, op (decide (0 < cnt l 0 p)) (decide (0 < cnt l 1 p)) = true ↔ opP how (In a p) (In b p) := fun p => by
    rw [hop]; exact opP_iff (by rw [decide_eq_true_iff]; exact h0 p) (by rw [decide_eq_true_iff]; exact h1 p)
  have hof : op false false = false := by
    cases h : op false false with
    | false => rfl
    | true => have := opP_or ((hop _ _).1 h); simp at this
  refine Tot.bind (t_gen cl op hcl hof l (by omega) (hsort.imp fun {x y} h => ?_) (fun e he => ?_) fun p hp => ?_) fun r ⟨g1, g2, g3⟩ => Tot.ret ⟨g1, fun p => (g2 p).trans (hiff p), by omega⟩
  · rw [ecmp_lt] at h; omega
  · rcases List.mem_append.1 (hperm.mem_iff.1 he) with he | he
    · have := edgesL_ok a 0 e he; exact ⟨.inl this.1, this.2⟩
    · have := edgesL_ok b 1 e he; exact ⟨.inr this.1, this.2⟩
  · exact (opP_or ((hiff p).1 hp)).elim In_range In_range

abbrev IsOf (how : Int) (a b r : List api_Span) : Prop := OrdS r ∧ (∀ p, In r p ↔ opP how (In a p) (In b p)) ∧ r.length ≤ 2 * (a.length + b.length)

theorem t_Add (a b : List api_Span) (ha : a.length ≤ 5000) (hb : b.length ≤ 5000) : Tot (span_Add a b) (IsOf 1 a b) :=
  Tot.bind (t_op span_Add_1 (fun x y => x || y) 1 (by decide) (by unfold opP; decide) a b ha hb) fun _ h => Tot.ret h
theorem t_Cut (a b : List api_Span) (ha : a.length ≤ 5000) (hb : b.length ≤ 5000) : Tot (span_Cut a b) (IsOf 2 a b) :=
  Tot.bind (t_op span_Cut_1 (fun x y => x && !y) 2 (by decide) (by unfold opP; decide) a b ha hb) fun _ h => Tot.ret h
theorem t_Norm (a : List api_Span) (ha : a.length ≤ 5000) : Tot (span_Norm a) (IsOf 1 a []) :=
  Tot.bind (t_Add a [] ha (by decide)) fun _ h => Tot.ret h
theorem op1_nil {a r : List api_Span} {n : Nat} (h : OrdS r ∧ (∀ p, In r p ↔ opP 1 (In a p) (In [] p)) ∧ r.length ≤ n) (p : Int) : In r p ↔ In a p := by
  rw [h.2.1 p]; simp [opP, In_nil]
theorem op2 {a b r : List api_Span} {n : Nat} (h : OrdS r ∧ (∀ p, In r p ↔ opP 2 (In a p) (In b p)) ∧ r.length ≤ n) (p : Int) : In r p ↔ In a p ∧ ¬ In b p := by
  rw [h.2.1 p]; simp [opP]
end Go.Proofs
