/- Contracts of functions that hand back a slice of their own making; short names for everyday data. No condition. -/
import Derived.Test.YtkbkfcehehofnaaCatQ
namespace Go.Cat
set_option linter.all false
open Go.RowKit
variable [M : Mono]

section
variable {P : Program} {T : TT} {w : World} {F : Nat → Prop} {β : Nat → Value}

/-- A label is bound anew, to what a call has made; what it made beside may be read from now on. -/
theorem ext_bindF {st : ASt} {w' : World} {F' : Nat → Prop} {d : Nat} {c : Chunk} {v : Value} (hd : d < 1000) (hI : Inv w F β st.H) (hb : Below w.heap.size w w') (hmono : ∀ b, F b → F' b) (hFnew : ∀ b, F' b → FNew F w w' b)
    (hnew : ∀ b, blkOf v = some b → w.heap.size ≤ b ∧ ¬ F' b) (hc : c.holds w' F' (fun i => if i = d then v else β i) d) :
    Ext w F β st w' F' (fun i => if i = d then v else β i) (bindSt st d c) := by
  have hβ : ∀ i, i ≠ d → (fun i => if i = d then v else β i) i = β i := fun i hi => if_neg hi
  have ha : Agree F w w' := Below.agree hb hI.fsize
  have hown : ∀ b, Owned (fun i => if i = d then v else β i) ((d, c) :: erH d st.H) b → (w.heap.size ≤ b ∧ ¬ F' b) ∨ Owned β st.H b := by
    rintro b ⟨i, c', hm, hb'⟩
    rcases List.mem_cons.1 hm with hm | hm
    · cases hm
      simp only [if_true] at hb'
      exact .inl (hnew b hb')
    · obtain ⟨hi, c2, h2, _⟩ := erH_mem hm
      simp only [if_neg hi] at hb'
      exact .inr ⟨i, c2, h2, hb'⟩
  refine ⟨hb.os, hb.tape, hb.output, hb.size, fun b h _ => hb.block b h, hmono, fun b h => (hFnew b h).elim .inl fun h => .inr (.inl h.1), fun b h => (hown b h).elim (fun h => .inl h.1) .inr, fun t u h => er_rd hβ 2 (h.frame ha hmono), ?_, fun i hi => hβ i (by omega)⟩
  refine ⟨fun b h => (hFnew b h).elim (fun h => Nat.lt_of_lt_of_le (hI.fsize b h) hb.size) fun h => h.2, ?_, ?_, fun b ho hF => ?_, ?_⟩
  · intro i c' hm
    rcases List.mem_cons.1 hm with hm | hm
    · cases hm; exact hc
    · obtain ⟨hi, c2, h2, rfl⟩ := erH_mem hm
      exact holds_er hi hβ (holds_frame ha hmono (fun b hb' => hb.block b (hI.owned_lt ⟨i, c2, h2, hb'⟩)) (hI.holds i c2 h2))
  · show ((d :: (erH d st.H).map (·.1))).Nodup
    rw [List.nodup_cons]
    refine ⟨fun hm => ?_, erH_keys hI.keys⟩
    obtain ⟨x, hx, hxe⟩ := List.mem_map.1 hm
    obtain ⟨i, c'⟩ := x
    exact (erH_mem hx).1 hxe
  · rcases hown b ho with h | h
    · exact h.2 hF
    · rcases hFnew b hF with h1 | h1
      · exact hI.apart b h h1
      · exact absurd (hI.owned_lt h) (Nat.not_lt.2 h1.1)
  · have key : ∀ i c' b, (i, c') ∈ erH d st.H → blkOf (β i) = some b → blkOf v = some b → False := fun i c' b hm hb1 hv => by
      obtain ⟨hi, c2, h2, _⟩ := erH_mem hm
      exact absurd (hI.owned_lt ⟨i, c2, h2, hb1⟩) (Nat.not_lt.2 (hnew b hv).1)
    intro i c1 i' c1' b hm hm' hb1 hb'
    rcases List.mem_cons.1 hm with hm | hm <;> rcases List.mem_cons.1 hm' with hm' | hm'
    · cases hm; cases hm'; rfl
    · cases hm
      simp only [if_true] at hb1
      simp only [if_neg (erH_mem hm').1] at hb'
      exact (key i' c1' b hm' hb' hb1).elim
    · cases hm'
      simp only [if_true] at hb'
      simp only [if_neg (erH_mem hm).1] at hb1
      exact (key i c1 b hm hb1 hb').elim
    · obtain ⟨hi, c2, h2, _⟩ := erH_mem hm
      obtain ⟨hi', c2', h2', _⟩ := erH_mem hm'
      simp only [if_neg hi] at hb1
      simp only [if_neg hi'] at hb'
      exact hI.disj i c2 i' c2' b h2 h2' hb1 hb'

/-- Called with arguments that read as 'args', g returns a slice of its own making, of these rows. -/
def POwn (P : Program) (g : FuncId) (args : List AV) (E K : Nat) (rows : List (List AV)) : Prop :=
  Entered P g ∧ ∀ (w : World) (F : Nat → Prop) (β : Nat → Value) (vs : Array Value), Inv w F β [] → vs.size = args.length → (∀ i, i < args.length → Rd w F β (args.getD i .junk) (vs.getD i undef)) →
    Calls P g vs w fun e w' => ∃ v, e = .returned v ∧ Below w.heap.size w w' ∧ ∃ F', (∀ b, F b → F' b) ∧ (∀ b, F' b → FNew F w w' b) ∧ Chunk.holds w' F' (fun _ => v) 0 (.own E K rows) ∧ (∃ a n c, v = .slice a n c) ∧
      ∀ b, blkOf v = some b → w.heap.size ≤ b ∧ ¬ F' b

/-- What a body that hands back a slice of its own making ends in. -/
def EndOwn (E K : Nat) (rows : List (List AV)) (x : AV) (st : ASt) : Prop :=
  (x = .v (.slice none 0 0) ∧ rows = []) ∨ ∃ id, x = .o id ∧ findC id st.H = some (.own E K rows)

theorem own_any {id : Nat} {E K : Nat} {rows : List (List AV)} (h : Chunk.holds w F β id (.own E K rows)) : ∀ (β' : Nat → Value) (i : Nat), β' i = β id → Chunk.holds w F β' i (.own E K rows) := by
  intro β' i hi
  unfold Chunk.holds at *
  rw [hi]; exact h

theorem pown_of_body {g n E K : Nat} {fn : Func} {c : Code} {args : List AV} {rows : List (List AV)} (hT : TOk P T) (hfn : P.funcs[g]? = some fn) (hnm : (fn.name == "runtime.NumGoroutine") = false) (hb : fn.body = some c) (hn : fn.ntmps = n) (hle : args.length ≤ n)
    (h : wpc P T n c ⟨initf args, []⟩ (fpost T fn.results.toList (EndOwn E K rows))) : POwn P g args E K rows := by
  refine ⟨⟨fn, c, hfn, hnm, hb⟩, fun w F β vs hI hs hv => ?_⟩
  refine (calls_of_wpc hT hfn hb hn hle h hI hs hv).mono ?_
  rintro e w' ⟨v, rfl, x, st, F', β', hz, hx, he⟩
  have hno : ∀ b, ¬ Owned β ([] : Hp) b := by rintro b ⟨id, c, hm, _⟩; cases hm
  refine ⟨v, rfl, ⟨he.os, he.tape, he.output, he.size, fun b hb' => he.block b hb' (hno b)⟩, F', he.mono, fun b hb' => ?_, ?_⟩
  · rcases he.new b hb' with h1 | h1 | h1
    · exact .inl h1
    · exact .inr ⟨h1, he.inv.fsize b hb'⟩
    · exact (hno b h1).elim
  · rcases hz with ⟨rfl, rfl⟩ | ⟨id, rfl, hc⟩
    · rw [hx.v_inv]
      exact ⟨.inl ⟨rfl, none, rfl⟩, ⟨_, _, _, rfl⟩, fun b hb' => by cases hb'⟩
    · obtain ⟨a, m, cp, hβ, rfl⟩ := hx.o_inv
      have hm := findC_mem hc
      refine ⟨own_any (he.inv.holds _ _ hm) _ _ hβ.symm, ⟨_, _, _, rfl⟩, fun b hb' => ?_⟩
      have ho : Owned β' st.H b := ⟨id, _, hm, by rw [hβ]; exact hb'⟩
      refine ⟨?_, he.inv.apart b ho⟩
      rcases he.owned b ho with h1 | h1
      · exact h1
      · exact (hno b h1).elim

theorem CallOk.own {g : FuncId} {xs ys : List AV} {st : ASt} {E K D : Nat} {rows : List (List AV)} {k : AV → ASt → Prop} (h : POwn P g ys E K rows) (hle : LeL xs ys) (hD : Nat.blt D 1000 = true) (hk : k (.o D) (bindSt st D (.own E K rows))) : CallOk P g xs st k := by
  obtain ⟨hl, hz⟩ := hle.spec
  refine ⟨h.1, fun w F β vs hI hs hv => (h.2 w F β vs hI.nil (by omega) fun i hi => hz i (by omega) _ _ _ _ (hv i (by omega))).mono ?_⟩
  rintro e w' ⟨v, rfl, hb, F', h1, h2, h3, ⟨a, m, c, rfl⟩, h4⟩
  exact ⟨_, rfl, .o D, _, F', _, hk, .o (by simp), ext_bindF (by simpa using hD) hI hb h1 h2 h4 (own_any h3 _ _ (by simp))⟩

/-- The slice of the callee's own making, read alone. -/
theorem POwn.pure {g : FuncId} {args : List AV} {E K : Nat} {rows : List (List AV)} (h : POwn P g args E K rows) : Pure P g args (.s rows) := by
  refine ⟨h.1, fun w F β vs hI hs hv => (h.2 w F β vs hI hs hv).mono ?_⟩
  rintro e w' ⟨v, rfl, hb, F', h1, h2, h3, ⟨a, m, c, rfl⟩, h4⟩
  refine ⟨_, rfl, hb, ?_⟩
  rcases h3 with ⟨rfl, a', hv⟩ | ⟨g', cap, cur, hv, hc, hg, hn, hmx, hsz, hK, hr⟩
  · cases hv; exact .s0
  · cases hv
    have h0 : Nat.beq c 0 = false := by cases c <;> first | rfl | omega
    have hge := (h4 g' (by simp [blkOf, h0])).1
    refine .s (off := 0) (k := K) (u := fun i j => cur.getD (i * K + j) undef) (.inr ⟨hge, blk_lt_of_heap hg⟩) hn hmx hK (fun i j hi hj => ?_) (fun i j hi hj => (hr i j hi hj).1) fun i j hi hj => (hr i j hi hj).2.frame (fun _ _ => rfl) h2
    rw [Nat.zero_add, cell_of_row w' g' _ cur E (0, 0) hg]
    have : i * K + j < cur.size := by
      rw [hsz]
      calc i * K + j < i * K + K := by omega
        _ = (i + 1) * K := by rw [Nat.add_mul]; omega
        _ ≤ c * K := Nat.mul_le_mul_right _ (by omega)
    simp [this]

end

/-! Short names. -/
abbrev vi (n : Int) : AV := .v (.int .i64 n)
abbrev vb (b : Bool) : AV := .v (.bool b)
abbrev bs (l : List UInt8) : AV := .s (l.map encB)
def encI (n : Int) : List AV := [.v (.int .i64 n)]
abbrev is (l : List Int) : AV := .s (l.map encI)

theorem Fz.v' {H : Hp} {x y : Value} (h : x = y) : Fz H (.v x) (.v y) := h ▸ Fz.v
theorem Fz.s' {H : Hp} {x y : List (List AV)} (h : x = y) : Fz H (.s x) (.s y) := h ▸ Fz.s

theorem rowsLen_map {α : Type} {f : α → List AV} {n : Nat} (h : ∀ x, (f x).length = n) (l : List α) : RowsLen (l.map f) n := fun r hr => by
  obtain ⟨x, _, rfl⟩ := List.mem_map.1 hr
  exact h x

theorem row_map {α : Type} {f : α → List AV} {l : List α} {k : Nat} (h : k < l.length) : (l.map f)[k]? = some (f l[k]) := by simp [h]

end Go.Cat
