/- Callees that change one thing of the caller's own (a box, a slice); a slice of one's own that is given up; closures. No condition. -/
import Derived.Test.YtkbkfcehehofnaaCatR
namespace Go.Cat
set_option linter.all false
open Go.RowKit
variable [M : Mono]

section
variable {P : Program} {T : TT} {w : World} {F : Nat → Prop} {β : Nat → Value}

/-- Called with arguments that read as 'args', where label 1000 names the chunk c, g returns, and leaves things as R says (what is returned, what the chunk then is); it writes to nothing else. -/
def PChg (P : Program) (g : FuncId) (args : List AV) (c : Chunk) (R : AV → Chunk → Prop) : Prop :=
  Entered P g ∧ ∀ (w : World) (F : Nat → Prop) (β : Nat → Value) (vs : Array Value), Inv w F β [(1000, c)] → vs.size = args.length →
    (∀ i, i < args.length → Rd w F β (args.getD i .junk) (vs.getD i undef)) →
    Calls P g vs w fun e w' => ∃ v, e = .returned v ∧ ∃ r c' F', R r c' ∧ RdI w' F' r v ∧ w'.os = w.os ∧ SameT w w' ∧ w'.output = w.output ∧ w.heap.size ≤ w'.heap.size ∧
      (∀ b, b < w.heap.size → blkOf (β 1000) ≠ some b → w'.heap[b]? = w.heap[b]?) ∧ (∀ b, F b → F' b) ∧ (∀ b, F' b → FNew F w w' b) ∧ chunkImm c' = true ∧ c'.holds w' F' β 1000

/-- What a body that changes its one chunk ends in. -/
def EndChg (R : AV → Chunk → Prop) (x : AV) (st : ASt) : Prop := ∃ r c', R r c' ∧ findC 1000 st.H = some c' ∧ chunkImm c' = true ∧ Fz (dropC 1000 st.H) x r

theorem pchg_of_body {g n : Nat} {fn : Func} {c : Code} {args : List AV} {ch : Chunk} {R : AV → Chunk → Prop} (hT : TOk P T) (hfn : P.funcs[g]? = some fn) (hnm : (fn.name == "runtime.NumGoroutine") = false) (hb : fn.body = some c) (hn : fn.ntmps = n) (hle : args.length ≤ n)
    (h : wpc P T n c ⟨initf args, [(1000, ch)]⟩ (fpost T fn.results.toList (EndChg R))) : PChg P g args ch R := by
  refine ⟨⟨fn, c, hfn, hnm, hb⟩, fun w F β vs hI hs hv => ?_⟩
  refine (calls_of_wpc hT hfn hb hn hle h hI hs hv).mono ?_
  rintro e w' ⟨v, rfl, x, st, F', β', ⟨r, c', hR, hc', himm, hz⟩, hx, he⟩
  have hm := findC_mem hc'
  have hlab : β' 1000 = β 1000 := he.lab 1000 (Nat.le_refl _)
  have hI0 := he.inv.dropC 1000
  have hown0 : ∀ b, Owned β [(1000, ch)] b ↔ blkOf (β 1000) = some b := fun b => ⟨fun ⟨i, c, hm, hb⟩ => by
    simp only [List.mem_singleton, Prod.mk.injEq] at hm; rw [← hm.1]; exact hb, fun hb => ⟨1000, ch, by simp, hb⟩⟩
  have hmine : ∀ b, blkOf (β 1000) = some b → Owned β' st.H b := fun b hb => ⟨1000, c', hm, by rw [hlab]; exact hb⟩
  refine ⟨v, rfl, r, c', fun b => F' b ∨ Owned β' (dropC 1000 st.H) b, hR, hz w' F' β' v hI0 hx, he.os, he.tape, he.output, he.size, fun b hb' hne => he.block b hb' fun ho => hne ((hown0 b).1 ho), fun b hb => .inl (he.mono b hb), fun b hb => ?_, himm, ?_⟩
  · rcases hb with hb | ⟨i, ci, hmi, hb⟩
    · rcases he.new b hb with h1 | h1 | h1
      · exact .inl h1
      · exact .inr ⟨h1, he.inv.fsize b hb⟩
      · exact absurd hb (he.inv.apart b (hmine b ((hown0 b).1 h1)))
    · have ho : Owned β' st.H b := ⟨i, ci, (dropC_mem.1 hmi).1, hb⟩
      rcases he.owned b ho with h1 | h1
      · exact .inr ⟨h1, he.inv.owned_lt ho⟩
      · exact absurd (he.inv.disj i ci 1000 c' b (dropC_mem.1 hmi).1 hm hb (by rw [hlab]; exact (hown0 b).1 h1)) (dropC_mem.1 hmi).2
  · exact holds_imm himm (fun _ h => .inl h) hlab.symm (he.inv.holds _ _ hm)

/-- A tree of the caller's, as the callee sees it: label 'id' is 1000 there. -/
def Lr (id : Nat) (x y : AV) : Prop := ∀ (w : World) (F : Nat → Prop) (β β' : Nat → Value) (u : Value), β' 1000 = β id → Rd w F β x u → Rd w F β' y u

inductive LrL (id : Nat) : List AV → List AV → Prop where
  | nil : LrL id [] []
  | cons {x y : AV} {xs ys : List AV} (h : Lr id x y) (t : LrL id xs ys) : LrL id (x :: xs) (y :: ys)

theorem LrL.spec {id : Nat} {xs ys : List AV} (h : LrL id xs ys) : xs.length = ys.length ∧ ∀ i, i < xs.length → Lr id (xs.getD i .junk) (ys.getD i .junk) := by
  induction h with
  | nil => exact ⟨rfl, fun i hi => by simp at hi⟩
  | cons h t ih =>
    refine ⟨by simp [ih.1], fun i hi => ?_⟩
    cases i with
    | zero => simpa using h
    | succ i => simpa using ih.2 i (by simpa using hi)

theorem Lr.imm {id : Nat} {x : AV} (h : imm1 x = true) : Lr id x x := fun _ _ _ _ _ _ hr => .i (imm1_rd h hr)
theorem Lr.nil {id : Nat} : Lr id (.v (.slice none 0 0)) (.s []) := fun _ _ _ _ _ _ hr => by rw [hr.v_inv]; exact .i .s0
theorem Lr.b {id off : Nat} : Lr id (.b id off) (.b 1000 off) := fun _ _ _ _ _ hβ hr => by
  obtain ⟨blk, h1, rfl⟩ := hr.b_inv; exact .b (hβ.trans h1)
theorem Lr.o {id : Nat} : Lr id (.o id) (.o 1000) := fun _ _ _ _ _ hβ hr => by
  obtain ⟨a, n, c, h1, rfl⟩ := hr.o_inv; exact .o (hβ.trans h1)

theorem CallOk.chg {g : FuncId} {id : Nat} {xs ys : List AV} {st : ASt} {c : Chunk} {R : AV → Chunk → Prop} {k : AV → ASt → Prop} (h : PChg P g ys c R) (hc : findC id st.H = some c) (himm : chunkImm c = true) (hle : LrL id xs ys)
    (hk : ∀ r c', R r c' → k r ⟨st.f, setC id c' st.H⟩) : CallOk P g xs st k := by
  obtain ⟨hl, hz⟩ := hle.spec
  have hm := findC_mem hc
  refine ⟨h.1, fun w F β vs hI hs hv => ?_⟩
  let β1 : Nat → Value := fun i => if i = 1000 then β id else undef
  have hb1 : β1 1000 = β id := if_pos rfl
  have hI1 : Inv w F β1 [(1000, c)] := by
    refine ⟨hI.fsize, fun i c' hm' => ?_, by simp, fun b ⟨i, c', hm', hb⟩ => ?_, fun i c1 i' c1' b h1 h2 _ _ => ?_⟩
    · simp only [List.mem_singleton, Prod.mk.injEq] at hm'
      obtain ⟨rfl, rfl⟩ := hm'
      exact holds_imm himm (fun _ h => h) hb1 (hI.holds _ _ hm)
    · simp only [List.mem_singleton, Prod.mk.injEq] at hm'
      obtain ⟨rfl, rfl⟩ := hm'
      rw [hb1] at hb
      exact hI.apart b ⟨id, c', hm, hb⟩
    · simp only [List.mem_singleton, Prod.mk.injEq] at h1 h2
      rw [h1.1, h2.1]
  refine (h.2 w F β1 vs hI1 (by omega) fun i hi => hz i (by omega) w F β β1 _ hb1 (hv i (by omega))).mono ?_
  rintro e w' ⟨v, rfl, r, c', F', hR, hr, hos, htp, hout, hsz, hblk, hmono, hnew, himm', hc'⟩
  rw [hb1] at hblk
  have hown : ∀ b, Owned β (setC id c' st.H) b → Owned β st.H b := by
    rintro b ⟨i, c2, h, hb⟩
    rcases setC_mem h with ⟨rfl, _, c3, h3⟩ | ⟨_, h3⟩
    · exact ⟨i, c3, h3, hb⟩
    · exact ⟨i, c2, h3, hb⟩
  have hbF : ∀ b, F b → w'.heap[b]? = w.heap[b]? := fun b hb => hblk b (hI.fsize b hb) fun he => hI.apart b ⟨id, c, hm, he⟩ hb
  refine ⟨v, rfl, r, _, F', β, hk r c' hR, .i hr, ⟨hos, htp, hout, hsz, fun b hb hno => hblk b hb fun he => hno ⟨id, c, hm, he⟩, hmono, fun b hb => (hnew b hb).elim .inl fun h => .inr (.inl h.1), fun b hb => .inr (hown b hb), fun t u hu => hu.frame hbF hmono, ?_, fun _ _ => rfl⟩⟩
  refine ⟨fun b hb => (hnew b hb).elim (fun h => Nat.lt_of_lt_of_le (hI.fsize b h) hsz) fun h => h.2, fun i c2 h => ?_, by rw [setC_keys]; exact hI.keys, fun b ho hF => ?_, fun i c1 i' c1' b h h' hb hb' => ?_⟩
  · rcases setC_mem h with ⟨rfl, rfl, _⟩ | ⟨hi, h2⟩
    · exact holds_imm himm' (fun _ h => h) hb1.symm hc'
    · exact holds_frame hbF hmono (fun b hb => hblk b (hI.owned_lt ⟨i, c2, h2, hb⟩) fun he => hi (hI.disj i c2 id c b h2 hm hb he)) (hI.holds i c2 h2)
  · rcases hnew b hF with h1 | h1
    · exact hI.apart b (hown b ho) h1
    · exact absurd (hI.owned_lt (hown b ho)) (Nat.not_lt.2 h1.1)
  · have hx : ∃ c, (i, c) ∈ st.H := by rcases setC_mem h with ⟨_, _, c2, h2⟩ | ⟨_, h2⟩ <;> exact ⟨_, h2⟩
    have hy : ∃ c, (i', c) ∈ st.H := by rcases setC_mem h' with ⟨_, _, c2, h2⟩ | ⟨_, h2⟩ <;> exact ⟨_, h2⟩
    obtain ⟨c2, h2⟩ := hx
    obtain ⟨c3, h3⟩ := hy
    exact hI.disj i c2 i' c3 b h2 h3 hb hb'

/-! A slice of one's own that is given up: it may be read from now on, by whomever. -/
theorem CallOk.freeze {g : FuncId} {id E K : Nat} {rows : List (List AV)} {xs : List AV} {st : ASt} {k : AV → ASt → Prop} (hc : findC id st.H = some (.own E K rows)) (h : CallOk P g (xs.map (sb (.s rows) 2 id)) (frSt id rows st) k) : CallOk P g xs st k := by
  have hm := findC_mem hc
  refine ⟨h.1, fun w F β vs hI hs hv => ?_⟩
  have hz : ∀ u, Rd w (fun b => F b ∨ blkOf (β id) = some b) β (.o id) u → Rd w (fun b => F b ∨ blkOf (β id) = some b) β (.s rows) u := fun u hu => by
    refine .i (freeze_rd hI hm ?_)
    obtain ⟨a, n, c, h1, rfl⟩ := hu.o_inv
    exact .o h1
  have up : ∀ {x u}, Rd w F β x u → Rd w (fun b => F b ∨ blkOf (β id) = some b) β x u := fun h => h.frame (fun _ _ => rfl) fun _ h => .inl h
  have hI' : Inv w (fun b => F b ∨ blkOf (β id) = some b) β (frH id rows st.H) := by
    refine ⟨fun b hb => hb.elim (hI.fsize b) fun hb => hI.owned_lt ⟨id, _, hm, hb⟩, fun i c h => ?_, frH_keys hI.keys, fun b ⟨i, c, h, hb⟩ hF => ?_, fun i c i' c' b h h' hb hb' => ?_⟩
    · obtain ⟨hi, c', h', rfl⟩ := frH_mem h
      have hh := hI.holds i c' h'
      cases c' with
      | own E' K' r => exact holds_imm (c := .own E' K' r) rfl (fun _ h => .inl h) rfl hh
      | mp ag r => exact holds_imm (c := .mp ag r) rfl (fun _ h => .inl h) rfl hh
      | box cells =>
        obtain ⟨b, cs, e, hb, hh, hs, h1, hr⟩ := hh
        refine ⟨b, cs, e, hb, hh, by simpa using hs, fun j hj => h1 j (by simpa using hj), fun j hj => ?_⟩
        have hj : j < cells.length := by simpa using hj
        have : (cells.map (sb (.s rows) 1 id)).getD j .junk = sb (.s rows) 1 id (cells.getD j .junk) := by simp [List.getD, hj]
        rw [this]
        exact sb_rd hz (fun _ _ => rfl) 1 (up (hr j hj))
    · obtain ⟨hi, c', h', _⟩ := frH_mem h
      rcases hF with hF | hF
      · exact hI.apart b ⟨i, c', h', hb⟩ hF
      · exact hi (hI.disj i c' id _ b h' hm hb hF)
    · obtain ⟨_, c2, h2, _⟩ := frH_mem h
      obtain ⟨_, c3, h3, _⟩ := frH_mem h'
      exact hI.disj i c2 i' c3 b h2 h3 hb hb'
  have hownF : ∀ b, Owned β (frH id rows st.H) b → Owned β st.H b := fun b ⟨i, c, h, hb⟩ => by
    obtain ⟨_, c2, h2, _⟩ := frH_mem h
    exact ⟨i, c2, h2, hb⟩
  refine (h.2 w _ β vs hI' (by simpa using hs) fun i hi => ?_).mono ?_
  · have hi : i < xs.length := by simpa using hi
    have : (xs.map (sb (.s rows) 2 id)).getD i .junk = sb (.s rows) 2 id (xs.getD i .junk) := by simp [List.getD, hi]
    rw [this]
    exact sb_rd hz (fun _ _ => rfl) 2 (up (hv i hi))
  · rintro e w' ⟨v, rfl, r, st', F', β', hk, hr, hx⟩
    refine ⟨v, rfl, r, st', F', β', hk, hr, hx.os, hx.tape, hx.output, hx.size, fun b hb hno => hx.block b hb fun ho => hno (hownF b ho), fun b hb => hx.mono b (.inl hb), fun b hb => ?_, fun b hb => (hx.owned b hb).elim .inl fun h => .inr (hownF b h),
      fun t u hu => hx.keep t u (sb_rd hz (fun _ _ => rfl) 2 (up hu)), hx.inv, hx.lab⟩
    rcases hx.new b hb with h1 | h1 | h1
    · rcases h1 with h1 | h1
      · exact .inl h1
      · exact .inr (.inr ⟨id, _, hm, h1⟩)
    · exact .inr (.inl h1)
    · exact .inr (.inr (hownF b h1))

/-! Closures. -/
theorem Fz.c {H : Hp} {fn : Fn} {fs fs' cs cs' : List AV} (h : FzL H fs fs') (h' : FzL H cs cs') : Fz H (.c fn fs cs) (.c fn fs' cs') := fun _ _ _ _ hI hr => by
  obtain ⟨us, vs, rfl, hs, hs', hu, hv⟩ := hr.c_inv
  obtain ⟨hl, hz⟩ := h.spec
  obtain ⟨hl', hz'⟩ := h'.spec
  exact .c (by omega) (by omega) (fun i hi => hz i (by omega) _ _ _ _ hI (hu i (by omega))) fun i hi => hz' i (by omega) _ _ _ _ hI (hv i (by omega))

/-- A pointer to a box of one's own, as who reads alone sees it. -/
theorem Fz.b {H : Hp} {id : Nat} {cells : List AV} (h : findC id H = some (.box cells)) (himm : cells.all imm0 = true) : Fz H (.b id 0) (.p cells) := fun w F β u hI hr => by
  have hm := findC_mem h
  obtain ⟨blk, hb, rfl⟩ := hr.b_inv
  obtain ⟨b, cs, e, hβ, hh, hs, h1, hrd⟩ := hI.holds _ _ hm
  rw [hb] at hβ
  cases hβ
  refine .p (b := blk) (off := 0) (u := fun j => cs.getD j undef) (.inr ⟨id, _, hm, by rw [hb]; rfl⟩) (fun j hj => ?_) h1 fun j hj => ?_
  · rw [Nat.zero_add, cell_of_row w blk _ cs e (0, 0) hh]
    simp [hs, hj]
  · have : imm0 (cells.getD j .junk) = true := List.all_eq_true.1 himm _ (by rw [List.getD_eq_getElem?_getD, List.getElem?_eq_getElem hj]; exact List.getElem_mem _)
    exact (imm0_rd this (hrd j hj)).frame (fun _ _ => rfl) fun _ h => .inl h

end
end Go.Cat
