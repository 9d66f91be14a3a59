/- What the library says of a map's keys, and of their sort, out of how the program holds it. No condition. -/
import Derived.Test.YtkbkfcehehofnaaCat0
import Derived.Shelf.SlIterI.Nil
import Derived.Shelf.SortM.Plain
import Derived.Shelf.SortM.SortNone
namespace Go.Cat
set_option linter.all false
open Go.RowKit Go.Proofs Go.Shelf Go.Maps Go.Sort
open Go.WideElems (Fit rg)

theorem keysSays_of {P : Program} {ρ : Ren} (L : SlLaysZI.n7 P ρ) : KeysSays P (ρ.f 7) (ρ.f 10) := fun b w =>
  (callsIn_wide.1 (AnyZI.keys_in L Fence.wide 5 trivial rfl (some b) w)).mono fun _ _ h => ⟨h.1, _, h.2⟩

def konst (_ : Value) : Option (DataW Unit × List MemPlace) := some (.lit (.bool false), [])

theorem perm_ins (x : Lit × DataW Unit) : ∀ l : List (Lit × DataW Unit), (DataW.insert x l).Perm (x :: l)
  | [] => List.Perm.refl _
  | y :: r => by
    unfold DataW.insert
    split
    · exact List.Perm.refl _
    · exact ((perm_ins x r).cons y).trans (List.Perm.swap x y r)
theorem perm_foldr : ∀ l : List (Lit × DataW Unit), (l.foldr DataW.insert []).Perm l
  | [] => List.Perm.refl _
  | x :: l => (perm_ins x _).trans ((perm_foldr l).cons x)

theorem sortedSays_of {P : Program} {ρk ρs : Ren} (Lk : SlLaysZI.n10 P ρk) (Ls : SlLaysZI.n6 P ρs) (hsort : AnyZI.SortsIn P ρs Fence.wide 4)
    (e9 : ∀ args w, (callFunc (ρs.f 9) args).run P w = .ok (.enter (ρs.f 9) args) w) (eg : ∀ args w, (callFunc (ρk.f 10) args).run P w = .ok (.enter (ρk.f 10) args) w) : SortedSays P (ρs.f 6) (ρk.f 10) (ρs.t 26) := by
  intro w Bm b es ck ks hcell hBm hh hst hkeys hks h8
  have hu : P.underlying (ρk.t 26) = some (.int .i64) := Lk.t26
  have hlen : es.size = ks.length := by have := congrArg List.length hkeys; simpa using this
  have hrd : ∀ x ∈ es.toList, ∃ n, Go.WideElems.rd P (ρk.t 26) konst x = some (.int .i64 n, .lit (.bool false)) ∧ x.key = .int .i64 n := fun x hx => by
    have hm : x.key ∈ ks.map (Value.int .i64) := by rw [← hkeys]; exact List.mem_map.2 ⟨x, hx, rfl⟩
    obtain ⟨n, hn, he⟩ := List.mem_map.1 hm
    have hw : (Lit.int .i64 n).wf = true := by
      have := hks n hn
      unfold InI64 at this
      simp only [Lit.wf, Bool.and_eq_true, decide_eq_true_eq]; exact ⟨this.1, this.2⟩
    exact ⟨n, by unfold Go.WideElems.rd; rw [← he, keyOf_int_mk hu hw]; rfl, he.symm⟩
  have hfit : Fit P (ρk.t 26) konst es ck := ⟨by have : maxLen = 2 ^ 63 - 1 := rfl; omega, hst, fun x hx => by obtain ⟨n, h, _⟩ := hrd x hx; exact ⟨_, h⟩⟩
  have hperm := perm_foldr (es.toList.map (rg P (ρk.t 26) konst))
  generalize hD : (es.toList.map (rg P (ρk.t 26) konst)).foldr DataW.insert [] = L at hperm
  have hLlen : L.length = ks.length := by rw [hperm.length_eq, List.length_map]; simpa using hlen
  have hint : (L.map fun p => intOf p.1).Perm ks := by
    refine (hperm.map _).trans ?_
    have : (es.toList.map (rg P (ρk.t 26) konst)).map (fun p => intOf p.1) = ks := by
      have e1 : ∀ l : List MapEntry, (∀ x ∈ l, ∃ n, Go.WideElems.rd P (ρk.t 26) konst x = some (.int .i64 n, .lit (.bool false)) ∧ x.key = .int .i64 n) → ∀ ks : List Int, l.map (·.key) = ks.map (Value.int .i64) → (l.map (rg P (ρk.t 26) konst)).map (fun p => intOf p.1) = ks := by
        intro l
        induction l with
        | nil =>
          intro _ ks h
          have := congrArg List.length h
          simp at this
          rw [List.length_eq_zero_iff.1 this.symm]; rfl
        | cons x l ih =>
          intro hl ks h
          cases ks with
          | nil => simp at h
          | cons n ks =>
            simp only [List.map_cons, List.cons.injEq] at h
            obtain ⟨m, h1, h2⟩ := hl x (by simp)
            rw [h2] at h
            have hmn : m = n := by have := h.1; simpa using this
            rw [List.map_cons, List.map_cons, ih (fun y hy => hl y (by simp [hy])) ks h.2]
            unfold rg
            rw [h1, ← hmn]; rfl
      exact e1 es.toList hrd ks hkeys
    rw [this]
  have hown : w.ownsMap P (ρk.t 26) konst b es.size (.map L) := ⟨es, ck, hh, hfit, Nat.le_refl _, by rw [hD]⟩
  have hseq := AnyZI.keys_gives (ρ := ρk) Lk Fence.wide 2 trivial rfl (by omega) Bm b es.size (.map L) w hBm hcell hown
  have hsz : Maps.size (DataW.map L) = ks.length := hLlen
  have cS := AnyZI.sorted_in Ls Fence.wide 5 trivial trivial trivial trivial rfl (by omega) hsort e9 (ρk.f 10) #[.pointer (some ⟨Bm, 0, none⟩)] trivial eg _ _ (by rw [hsz]; have : maxLen = 2 ^ 63 - 1 := rfl; omega) (by rw [hsz]; exact h8) w hseq
  refine (callsIn_wide.1 cS).mono ?_
  rintro e w' ⟨v, ss, rfl, hS, hrow, _, hb⟩
  have hp : ss.Perm ks := (show ss.Perm (intKeys (DataW.map L)) from hS).trans hint
  refine ⟨v, rfl, ?_, hb⟩
  have e1 : ss.mergeSort (fun x y => decide (x ≤ y)) = ks.mergeSort (fun x y => decide (x ≤ y)) := mergeSort_of_perm_i hp
  rw [e1, hp.length_eq] at hrow
  exact hrow
end Go.Cat
