/- The library's sort by a comparison, as a call that changes one slice of the caller's own. No condition. -/
import Derived.Test.YtcbpphgndncebaaCatX
import Derived.Test.YtcbpphgndncebaaCat1
import Derived.Test.YtcbpphgndncebaaCat6
import Derived.Shelf.GgSortFunc.InsertionK
namespace Go.Cat
set_option linter.all false
open Go.RowKit Go.Sort Go.Proofs

section
variable {P : Program}

/-- The cells of a tree as values. -/
def valsA : List AV → List Value := List.map fun a => match a with | .v x => x | _ => undef

def allV (l : List AV) : Bool := l.all fun a => match a with | .v x => x.oneCell' | _ => false

theorem allV_get {l : List AV} (h : allV l = true) {i : Nat} (hi : i < l.length) : ∃ x, l.getD i .junk = .v x ∧ (valsA l).getD i undef = x ∧ x.oneCell' = true := by
  have hm := List.all_eq_true.1 h (l[i]) (List.getElem_mem hi)
  unfold valsA
  have e1 : l.getD i .junk = l[i] := by simp [List.getD, hi]
  rw [e1]
  cases hl : l[i] with
  | v x => rw [hl] at hm; exact ⟨x, rfl, by simp [List.getD, hi, hl], hm⟩
  | _ => rw [hl] at hm; cases hm

theorem rd_agg_vals {w : World} {F : Nat → Prop} {β : Nat → Value} {l : List AV} (h : allV l = true) : Rd w F β (.a l) (.agg (valsA l).toArray) := by
  have hl : (valsA l).length = l.length := by simp [valsA]
  refine .i (.a (by simp [hl]) (fun i hi => ?_) fun i hi => ?_) <;> obtain ⟨x, h1, h2, h3⟩ := allV_get h hi
  · have : (valsA l).toArray.getD i undef = x := by rw [← h2]; simp [Array.getD, List.getD, hl, hi]
    rw [this]; exact h3
  · have : (valsA l).toArray.getD i undef = x := by rw [← h2]; simp [Array.getD, List.getD, hl, hi]
    rw [this, h1]; exact .v (.inl h3)

/-- What the library says of its sort, at a row of k cells an element. -/
def SortSays (P : Program) (f : Nat) (k : Nat) : Prop :=
  (∀ (p : Option Addr) (cap : Nat) (fv : Value) (w : World), Calls P f #[.slice p 0 cap, fv] w fun e w' => e = .returned (.tuple #[]) ∧ w' = w) ∧
  ∀ (α : Type) [Inhabited α] (enc : α → List Value), (∀ x, (enc x).length = k) → (∀ x, ∀ v ∈ enc x, v.oneCell' = true) → ∀ (cf : α → α → Int), SWO (fun x y => decide (cf x y < 0)) →
    ∀ (g : Nat) (cb : Array Value) (blk off cap : Nat) (d : Array α) (w : World), (∀ args w, (callFunc g args).run P w = .ok (.enter g args) w) →
    (∀ (m : Nat) (os : Array Obj) (dk : Array α), dk.size = d.size → ∀ x y : α,
      Calls P g (#[.agg (enc x).toArray, .agg (enc y).toArray] ++ cb) (sortWorldK enc k w blk off m dk os) fun e w' => e = .returned (.int .i64 (cf x y)) ∧ ∃ q os', w' = grow ((sortWorldK enc k w blk off m dk os).drewN q) os') →
    HoldsK enc k w blk off d → blk < w.heap.size → d.size < 4611686018427387904 →
    Calls P f #[.slice (some ⟨blk, off, none⟩) d.size cap, .func (.func g) #[] cb] w fun e w' =>
      e = .returned (.tuple #[]) ∧ ∃ n os, w' = sortWorldK enc k w blk off n (pdq (fun x y => decide (cf x y < 0)) d 0 d.size (Lib.bitLen d.size) true true) os

theorem arr2 {vs : Array Value} (h : vs.size = 2) : vs = #[vs.getD 0 undef, vs.getD 1 undef] := by
  apply Array.ext
  · simpa using h
  · intro i h1 h2
    match i, h1 with
    | 0, h1 => simp [Array.getD, h1]
    | 1, h1 => simp [Array.getD, h1]
    | n + 2, h1 => exact absurd h1 (by omega)

theorem heap_sortWorldK {α : Type} [Inhabited α] {enc : α → List Value} {k : Nat} {w : World} {b off n : Nat} {d : Array α} {os : Array Obj} {cur : Array Value} {E : Nat} {fr : Nat × Nat}
    (h : w.heap[b]? = some (.cells cur E fr)) : (sortWorldK enc k w b off n d os).heap[b]? = some (.cells (putCells id off (flatK enc k d) cur) E fr) := by
  have hlt : b < w.heap.size := (Array.getElem?_eq_some_iff.1 h).1
  unfold sortWorldK
  rw [heap_grow_old _ _ (by simpa [putRowK, putRow, mapBlock, Sort.ahead] using hlt)]
  simp [putRowK, putRow, mapBlock, Sort.ahead, Array.getElem?_modify, h, onCells]

theorem heap_sortWorldK_other {α : Type} [Inhabited α] {enc : α → List Value} {k : Nat} {w : World} {b off n : Nat} {d : Array α} {os : Array Obj} {c : Nat} (hc : c ≠ b) (hl : c < w.heap.size) :
    (sortWorldK enc k w b off n d os).heap[c]? = w.heap[c]? := by
  unfold sortWorldK
  rw [heap_grow_old _ _ (by simpa [putRowK, putRow, mapBlock, Sort.ahead] using hl)]
  simp [putRowK, putRow, mapBlock, Sort.ahead, Array.getElem?_modify, Ne.symm hc]

theorem size_sortWorldK {α : Type} [Inhabited α] {enc : α → List Value} {k : Nat} {w : World} {b off n : Nat} {d : Array α} {os : Array Obj} : w.heap.size ≤ (sortWorldK enc k w b off n d os).heap.size := by
  unfold sortWorldK
  simp [grow, putRowK, putRow, mapBlock, Sort.ahead]

/-- A row sorted by a closure that captures nothing. -/
theorem pchg_sortF {f k E g : Nat} {α : Type} [Inhabited α] {enc : α → List AV} {c : α → α → Option Int} {l r : List α} (hS : SortSays P f k) (hf : Entered P f)
    (hk : ∀ x, (enc x).length = k) (hv : ∀ x, allV (enc x) = true) (hcl : ∀ x y n, c x y = some n → Pure P g [.a (enc x), .a (enc y)] (.v (.int .i64 n)))
    (eg : ∀ args w, (callFunc g args).run P w = .ok (.enter g args) w) (h : sortF c l = some r) :
    PChg P f [.o 1000, .c (.func g) [] []] (.own E k (l.map enc)) (fun x c => x = .t [] ∧ c = .own E k (r.map enc)) := by
  obtain ⟨hmx, cf, hc, rfl⟩ := sortF_some h
  refine ⟨hf, fun w F β vs hI hs hvs => ?_⟩
  have h0 := hvs 0 (Nat.zero_lt_succ _)
  have h1 := hvs 1 (Nat.lt_succ_self _)
  obtain ⟨a, n, cap, hβ, e0⟩ := Rd.o_inv (id := 1000) h0
  obtain ⟨us, ws, e1, hus, hws, _⟩ := Rd.c_inv (fn := .func g) (fs := []) (cs := []) h1
  have hus0 : us = #[] := Array.eq_empty_of_size_eq_zero (by simpa using hus)
  have hws0 : ws = #[] := Array.eq_empty_of_size_eq_zero (by simpa using hws)
  subst hus0; subst hws0
  have hvs' : vs = #[.slice a n cap, .func (.func g) #[] #[]] := by have := arr2 (vs := vs) (by simpa using hs); rw [e0, e1] at this; exact this
  subst hvs'
  have hperm := (sortBy_spec hc.2 l).1
  have hlen := hperm.length_eq
  have hrdt : ∀ W : World, ∀ F : Nat → Prop, RdI W F (.t []) (.tuple #[]) := fun W F => .t rfl fun i hi => absurd hi (by simp)
  have hh := hI.holds 1000 (.own E k (l.map enc)) (by simp)
  rcases hh with ⟨hr, a', hβ'⟩ | ⟨b, cp, cur, hβ', hcp, hb, hlc, hcm, hcs, hrk, hcell⟩
  · have hl : l = [] := by simpa using hr
    subst hl
    rw [hβ'] at hβ; cases hβ
    have hr0 : sortBy cf [] = [] := List.eq_nil_of_length_eq_zero (by simpa using hlen)
    refine (hS.1 _ _ _ w).mono ?_
    rintro e w' ⟨rfl, rfl⟩
    exact ⟨_, rfl, _, _, F, ⟨rfl, rfl⟩, hrdt _ _, rfl, SameT.refl _, rfl, Nat.le_refl _, fun _ _ _ => rfl, fun _ h => h, fun _ h => .inl h, rfl, .inl ⟨by rw [hr0]; rfl, _, hβ'⟩⟩
  · have hll : (l.map enc).length = l.length := List.length_map _
    rw [hll] at hβ' hlc
    rw [hβ'] at hβ
    obtain ⟨ea, en, ec⟩ : some (⟨b, 0, none⟩ : Addr) = a ∧ l.length = n ∧ cp = cap := by simpa using hβ
    subst ea; subst en; subst ec
    have blt : b < w.heap.size := blk_lt_of_heap hb
    let ev : α → List Value := fun x => valsA (enc x)
    have hkv : ∀ x, (ev x).length = k := fun x => by simp [ev, valsA, hk x]
    have h1v : ∀ x, ∀ v ∈ ev x, v.oneCell' = true := fun x v hm => by
      obtain ⟨i, hi, rfl⟩ := List.getElem_of_mem hm
      have hi' : i < (enc x).length := by simpa [ev, valsA] using hi
      obtain ⟨y, _, h2, h3⟩ := allV_get (hv x) hi'
      have : (ev x)[i] = y := by rw [← h2]; simp [ev, List.getD, hi]
      rw [this]; exact h3
    have hrowk : ∀ i, i < l.length → ∀ (y : α), l[i]? = some y → ∀ j, j < k → cur.getD (i * k + j) undef = (ev y).getD j undef := fun i hi y hy j hj => by
      obtain ⟨_, hrd⟩ := hcell i j (by simpa using hi) hj
      have e1 : (l.map enc).getD i [] = enc y := by simp [List.getD, hy]
      rw [e1] at hrd
      obtain ⟨x, h1, h2, _⟩ := allV_get (hv y) (show j < (enc y).length by rw [hk]; exact hj)
      rw [h1] at hrd
      cases hrd with | v h => exact h2.symm
    have hH : HoldsK ev k w b 0 l.toArray := fun j hj => by
      rw [size_flatK] at hj
      have hj' : j < l.length * k := by simpa using hj
      have hk0 : 0 < k := by rcases Nat.eq_zero_or_pos k with h | h; · subst h; simp at hj'
                             · exact h
      have hq : j / k < l.length := (Nat.div_lt_iff_lt_mul hk0).2 hj'
      have hm : j % k < k := Nat.mod_lt _ hk0
      have hjj : j / k * k + j % k = j := by rw [Nat.mul_comm]; exact Nat.div_add_mod j k
      have hjc : j < cur.size := by rw [hcs]; exact Nat.lt_of_lt_of_le hj' (Nat.mul_le_mul_right k hlc)
      refine ⟨?_, ?_⟩
      · rw [get_flatK _ _ _ _ (by simpa using hj'), cell_of_row w b _ cur E (0, 0) hb]
        have := hrowk (j / k) hq l[j / k] (by simp [hq]) (j % k) hm
        rw [hjj] at this
        have e2 : l.toArray[j / k]! = l[j / k] := by rw [getElem!_pos _ _ (by simpa using hq)]; simp
        have e3 : (ev l[j / k])[j % k]! = (ev l[j / k]).getD (j % k) undef := by
          rw [getElem!_pos _ _ (by rw [hkv]; exact hm)]; simp [List.getD, hkv, hm]
        rw [e2]
        show cur[0 + j]? = some ((ev l[j / k])[j % k]!)
        rw [e3, ← this]
        simp [hjc]
      · simp [World.frozen?, hb]
    have hsw := hS.2 α ev hkv h1v cf hc.2 g #[] b 0 cp l.toArray w eg (fun m os dk _ x y => by
        let W := sortWorldK ev k w b 0 m dk os
        have hIW : Inv W (fun _ => False) (fun _ => undef) [] := ⟨fun _ h => h.elim, fun _ _ h => by simp at h, by simp, fun _ _ h => h, fun _ _ _ _ _ h => by simp at h⟩
        have hp := (hcl x y (cf x y) (hc.1 x y)).2 W (fun _ => False) (fun _ => undef) #[.agg (ev x).toArray, .agg (ev y).toArray] hIW rfl (fun i hi => by
          match i, hi with
          | 0, _ => exact rd_agg_vals (hv x)
          | 1, _ => exact rd_agg_vals (hv y)
          | n + 2, hi => exact absurd hi (by simp))
        refine (show Calls P g (#[.agg (ev x).toArray, .agg (ev y).toArray] ++ #[]) W _ from hp).mono ?_
        rintro e w' ⟨v, rfl, hb, hr⟩
        refine ⟨?_, hb.grown_eq⟩
        cases hr with | v h => rfl) hH blt (by simp; omega)
    refine (show Calls P f #[.slice (some ⟨b, 0, none⟩) l.length cp, .func (.func g) #[] #[]] w _ by simpa using hsw).mono ?_
    rintro e w' ⟨rfl, n, os, rfl⟩
    have hr' : pdq (fun x y => decide (cf x y < 0)) l.toArray 0 l.length (Lib.bitLen l.length) true true = (sortBy cf l).toArray := by simp [sortBy]
    simp only [hr']
    have hbH := heap_sortWorldK (enc := ev) (k := k) (off := 0) (n := n) (d := (sortBy cf l).toArray) (os := os) hb
    have hbk : blkOf (β 1000) = some b := by
      rw [hβ']
      have h0 : Nat.beq cp 0 = false := by cases cp <;> first | rfl | omega
      simp [blkOf, h0]
    have hnF : ¬ F b := hI.apart b ⟨1000, .own E k (l.map enc), by simp, hbk⟩
    refine ⟨_, rfl, _, _, F, ⟨rfl, rfl⟩, hrdt _ _, rfl, ⟨rfl, Nat.le_add_right _ _⟩, rfl, size_sortWorldK, fun c hc hne => heap_sortWorldK_other (fun h => hne (by rw [hbk, h])) hc, fun _ h => h, fun _ h => .inl h, ?_, .inr ⟨b, cp, _, ?_, hcp, hbH, ?_, hcm, ?_, ?_, ?_⟩⟩
    · rfl
    · rw [hβ', List.length_map, hlen]
    · rw [List.length_map, hlen]; exact hlc
    · simp [putCells, hcs]
    · intro i hi
      rw [List.length_map] at hi
      simp [List.getD, hi, hk]
    · intro i j hi hj
      rw [List.length_map] at hi
      have hil : i < l.length := by omega
      have hik : i * k + j < l.length * k := by
        have := Nat.mul_le_mul_right k (show i + 1 ≤ l.length from hil); rw [Nat.add_mul, Nat.one_mul] at this; omega
      have hic : i * k + j < cur.size := by rw [hcs]; exact Nat.lt_of_lt_of_le hik (Nat.mul_le_mul_right k hlc)
      have hk0 : 0 < k := by omega
      have e4 : (i * k + j) / k = i := by rw [Nat.mul_comm, Nat.mul_add_div hk0, Nat.div_eq_of_lt hj]; rfl
      have e5 : (i * k + j) % k = j := by rw [Nat.mul_comm, Nat.mul_add_mod, Nat.mod_eq_of_lt hj]
      have hlk : i * k + j < (sortBy cf l).length * k := by rw [hlen]; exact hik
      have e6 : (putCells id 0 (flatK ev k (sortBy cf l).toArray) cur).getD (i * k + j) undef = (ev (sortBy cf l)[i]).getD j undef := by
        have : (putCells id 0 (flatK ev k (sortBy cf l).toArray) cur)[i * k + j]? = some ((ev (sortBy cf l)[i]).getD j undef) := by
          unfold putCells
          rw [Array.getElem?_mapIdx, Array.getElem?_eq_getElem hic]
          have hc : 0 ≤ i * k + j ∧ i * k + j < 0 + (flatK ev k (sortBy cf l).toArray).size := ⟨Nat.zero_le _, by rw [size_flatK]; simpa using hlk⟩
          rw [Option.map_some, if_pos hc, Nat.sub_zero, get_flatK _ _ _ _ (by simpa using hlk), e4, e5]
          have e2 : (sortBy cf l).toArray[i]! = (sortBy cf l)[i] := by rw [getElem!_pos _ _ (by simpa using hi)]; simp
          rw [e2]
          show some ((ev (sortBy cf l)[i])[j]!) = _
          rw [getElem!_pos _ _ (by rw [hkv]; exact hj)]
          simp [List.getD, hkv, hj]
        rw [Array.getD_eq_getD_getElem?, this]; rfl
      obtain ⟨x, q1, q2, q3⟩ := allV_get (hv (sortBy cf l)[i]) (show j < (enc (sortBy cf l)[i]).length by rw [hk]; exact hj)
      have e7 : ((sortBy cf l).map enc).getD i [] = enc (sortBy cf l)[i] := by simp [List.getD, hi]
      rw [e6, e7, q1]
      show ((valsA _).getD j undef).oneCell' = true ∧ RdI _ _ _ ((valsA _).getD j undef)
      rw [q2]
      exact ⟨q3, .v (.inl q3)⟩
end
end Go.Cat
