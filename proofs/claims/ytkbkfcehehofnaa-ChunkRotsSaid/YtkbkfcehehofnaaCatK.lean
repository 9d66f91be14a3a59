/- The machine agrees with 'step': appends, slices that the call makes; all operations together. No condition. -/
import Derived.Test.YtkbkfcehehofnaaCatJ
import Derived.Deep.Upon
namespace Go.Cat
set_option linter.all false
open Go.RowKit
variable [M : Mono]

section
variable {P : Program} {T : TT} {w : World} {F : Nat → Prop} {β : Nat → Value} {st : ASt} {k : AV → ASt → Prop}

def chunkImm : Chunk → Bool
  | .box cells => cells.all imm0
  | .own .. => true
  | .mp .. => true

theorem holds_imm {F' : Nat → Prop} {β' : Nat → Value} {i j : Nat} {c : Chunk} (hc : chunkImm c = true) (hF : ∀ b, F b → F' b) (hβ : β' j = β i) (h : c.holds w F β i) : c.holds w F' β' j := by
  cases c with
  | box cells =>
    obtain ⟨b, cs, e, hb, hh, hs, h1, hr⟩ := h
    refine ⟨b, cs, e, hβ.trans hb, hh, hs, h1, fun k hk => ?_⟩
    have : imm0 (cells.getD k .junk) = true := List.all_eq_true.1 hc _ (by rw [List.getD_eq_getElem?_getD, List.getElem?_eq_getElem hk]; exact List.getElem_mem _)
    exact .i ((imm0_rd this (hr k hk)).frame (fun _ _ => rfl) hF)
  | mp ag rows =>
    unfold Chunk.holds at *
    rw [hβ]
    obtain ⟨b, es, ck, h0, hh, hst, hs, hm, hr⟩ := h
    refine ⟨b, es, ck, h0, hh, hst, hs, hm, fun i r hi => ?_⟩
    obtain ⟨e, h1, h2, h3, h4⟩ := hr i r hi
    exact ⟨e, h1, h2, h3, h4.frame (fun _ _ => rfl) hF⟩
  | own E K rows =>
    unfold Chunk.holds at *
    rw [hβ]
    rcases h with h | ⟨g, cap, cur, hv, hc, hg, hn, hm, hs, hk, hr⟩
    · exact .inl h
    · exact .inr ⟨g, cap, cur, hv, hc, hg, hn, hm, hs, hk, fun i j hi hj => ⟨(hr i j hi hj).1, (hr i j hi hj).2.frame (fun _ _ => rfl) hF⟩⟩

theorem frH_mem {id : Nat} {rows : List (List AV)} : ∀ {H : Hp} {i : Nat} {c : Chunk}, (i, c) ∈ frH id rows H → i ≠ id ∧ ∃ c', (i, c') ∈ H ∧ c = frC id rows c'
  | [], _, _, h => by cases h
  | (j, c') :: r, i, c, h => by
    simp only [frH] at h
    cases hb : Nat.beq j id with
    | true =>
      rw [hb] at h
      obtain ⟨h1, c2, h2, h3⟩ := frH_mem (H := r) h
      exact ⟨h1, c2, List.mem_cons_of_mem _ h2, h3⟩
    | false =>
      rw [hb] at h
      simp only [cond_false, List.mem_cons, Prod.mk.injEq] at h
      rcases h with ⟨rfl, rfl⟩ | h
      · exact ⟨fun e => (by rw [e, Nat.beq_refl] at hb; cases hb), c', by simp, rfl⟩
      · obtain ⟨h1, c2, h2, h3⟩ := frH_mem (H := r) h
        exact ⟨h1, c2, List.mem_cons_of_mem _ h2, h3⟩

theorem frH_keys {id : Nat} {rows : List (List AV)} : ∀ {H : Hp}, (H.map (·.1)).Nodup → ((frH id rows H).map (·.1)).Nodup
  | [], _ => by simp [frH]
  | (j, c) :: r, h => by
    simp only [List.map_cons, List.nodup_cons] at h
    simp only [frH]
    cases hb : Nat.beq j id with
    | true => exact frH_keys h.2
    | false =>
      simp only [cond_false, List.map_cons, List.nodup_cons]
      refine ⟨fun hm => ?_, frH_keys h.2⟩
      obtain ⟨x, hx, hxe⟩ := List.mem_map.1 hm
      obtain ⟨i, c'⟩ := x
      obtain ⟨_, c2, h2, _⟩ := frH_mem hx
      exact h.1 (List.mem_map.2 ⟨(i, c2), h2, hxe⟩)

theorem own_rd {id E K : Nat} {rows : List (List AV)} {u : Value} {H : Hp} (hI : Inv w F β H) (hm : (id, Chunk.own E K rows) ∈ H) (hu : Rd w F β (.o id) u) : RdI w (fun b => F b ∨ Owned β H b) (.s rows) u := by
  obtain ⟨a, n, c, hβ, rfl⟩ := hu.o_inv
  rcases hI.holds _ _ hm with ⟨rfl, a', hv⟩ | ⟨g, cap, cur, hv, hc, hg, hn, hmx, hs, hK, hr⟩
  · rw [hβ] at hv
    cases hv
    exact .s0
  · rw [hβ] at hv
    cases hv
    have h0 : Nat.beq c 0 = false := by cases c <;> first | rfl | omega
    have hcell := (own_cell (hI.holds _ _ hm) hβ).2.2.2
    obtain ⟨u, hu⟩ := hcell
    exact .s (off := 0) (u := u) (.inr ⟨id, _, hm, by rw [hβ]; simp [blkOf, h0]⟩) hn hmx hK (fun i j hi hj => by rw [Nat.zero_add]; exact (hu i j hi hj).1) (fun i j hi hj => (hu i j hi hj).2.1) fun i j hi hj => (hu i j hi hj).2.2.frame (fun _ _ => rfl) fun _ h => .inl h

def dropC (id : Nat) (H : Hp) : Hp := H.filter fun p => !Nat.beq p.1 id

theorem dropC_mem {id : Nat} {H : Hp} {x : Nat × Chunk} : x ∈ dropC id H ↔ x ∈ H ∧ x.1 ≠ id := by
  have hb : (!Nat.beq x.1 id) = true ↔ x.1 ≠ id := by
    cases h : Nat.beq x.1 id with
    | true => simp [Nat.eq_of_beq_eq_true h]
    | false => simp only [Bool.not_false, true_iff]; exact fun e => by rw [e, Nat.beq_refl] at h; cases h
  unfold dropC
  rw [List.mem_filter, hb]

theorem Inv.dropC {H : Hp} (h : Inv w F β H) (id : Nat) : Inv w F β (dropC id H) :=
  ⟨h.fsize, fun i c hm => h.holds i c (dropC_mem.1 hm).1, (List.Sublist.map _ (List.filter_sublist)).nodup h.keys, fun b ⟨i, c, hm, hb⟩ => h.apart b ⟨i, c, (dropC_mem.1 hm).1, hb⟩,
    fun i c i' c' b h1 h2 => h.disj i c i' c' b (dropC_mem.1 h1).1 (dropC_mem.1 h2).1⟩

theorem freeze_rd {id E K : Nat} {rows : List (List AV)} {H : Hp} (hI : Inv w F β H) (hm : (id, Chunk.own E K rows) ∈ H) {u : Value} (hu : Rd w F β (.o id) u) : RdI w (fun b => F b ∨ blkOf (β id) = some b) (.s rows) u := by
  have h1 := hI.dropC id
  have hI1 : Inv w F β [(id, .own E K rows)] := ⟨hI.fsize, fun i c h => by
      simp only [List.mem_singleton, Prod.mk.injEq] at h; obtain ⟨rfl, rfl⟩ := h; exact hI.holds _ _ hm, by simp,
    fun b ⟨i, c, h, hb⟩ => by simp only [List.mem_singleton, Prod.mk.injEq] at h; obtain ⟨rfl, rfl⟩ := h; exact hI.apart b ⟨_, _, hm, hb⟩,
    fun i c i' c' b h h' _ _ => by simp only [List.mem_singleton, Prod.mk.injEq] at h h'; rw [h.1, h'.1]⟩
  refine (own_rd hI1 (List.mem_singleton.2 rfl) hu).frame (fun _ _ => rfl) fun b hb => hb.elim .inl fun ⟨i, c, h, hb⟩ => .inr ?_
  simp only [List.mem_singleton, Prod.mk.injEq] at h
  rw [← h.1]; exact hb

/-- A source's values, one behind the other. -/
structure Src (w : World) (F : Nat → Prop) (K : Nat) (rows : List (List AV)) (ad : Addr) (news : List Value) : Prop where
  len : news.length = rows.length * K
  cell : ∀ j v, news[j]? = some v → w.cell? (ad.add j) = some v
  one : ∀ u, u ∈ news → u.oneCell' = true
  rd : ∀ i j, i < rows.length → j < K → RdI w F ((rows.getD i []).getD j .junk) (news.getD (i * K + j) undef)

theorem src_of {K K' b off : Nat} {rows : List (List AV)} {u : Nat → Nat → Value} (hlen : RowsLen rows K) (hK : ∀ i, i < rows.length → (rows.getD i []).length = K')
    (hv : ∀ i j, i < rows.length → j < K' → w.cell? ⟨b, off + (i * K' + j), none⟩ = some (u i j) ∧ (u i j).oneCell' = true ∧ RdI w F ((rows.getD i []).getD j .junk) (u i j)) :
    ∃ news, Src w F K rows ⟨b, off, none⟩ news := by
  have hKK : rows = [] ∨ K' = K := by
    cases rows with
    | nil => exact .inl rfl
    | cons r rs => exact .inr ((hK 0 (by simp)).symm.trans (hlen r (by simp)))
  refine ⟨(List.range (rows.length * K)).map fun q => u (q / K) (q % K), by simp, fun q v hq => ?_, fun v hv' => ?_, fun i j hi hj => ?_⟩
  · simp only [List.getElem?_map, Option.map_eq_some_iff] at hq
    obtain ⟨q', hq', rfl⟩ := hq
    obtain ⟨hlt, rfl⟩ := List.getElem?_eq_some_iff.1 hq'
    have hlt : q < rows.length * K := by simpa using hlt
    simp only [List.getElem_range]
    rcases hKK with rfl | rfl
    · simp at hlt
    · have hK0 : 0 < K' := by
        rcases Nat.eq_zero_or_pos K' with h | h
        · rw [h] at hlt; simp at hlt
        · exact h
      have h1 : q / K' < rows.length := (Nat.div_lt_iff_lt_mul hK0).2 hlt
      have := (hv (q / K') (q % K') h1 (Nat.mod_lt _ hK0)).1
      rw [Addr.add_lit]
      have e : q / K' * K' + q % K' = q := by rw [Nat.mul_comm]; exact Nat.div_add_mod q K'
      rwa [e] at this
  · obtain ⟨q, hq, rfl⟩ := List.mem_map.1 hv'
    have hlt : q < rows.length * K := by simpa using hq
    rcases hKK with rfl | rfl
    · simp at hlt
    · have hK0 : 0 < K' := by
        rcases Nat.eq_zero_or_pos K' with h | h
        · rw [h] at hlt; simp at hlt
        · exact h
      exact (hv (q / K') (q % K') ((Nat.div_lt_iff_lt_mul hK0).2 hlt) (Nat.mod_lt _ hK0)).2.1
  · rcases hKK with rfl | rfl
    · simp at hi
    · have hlt : i * K' + j < rows.length * K' := by
        calc i * K' + j < i * K' + K' := by omega
          _ = (i + 1) * K' := by rw [Nat.add_mul]; omega
          _ ≤ rows.length * K' := Nat.mul_le_mul_right _ hi
      have e1 : (i * K' + j) / K' = i := by rw [Nat.mul_comm, Nat.mul_add_div (by omega)]; simp [Nat.div_eq_of_lt hj]
      have e2 : (i * K' + j) % K' = j := by rw [Nat.mul_comm, Nat.mul_add_mod]; exact Nat.mod_eq_of_lt hj
      have := (hv i j hi hj).2.2
      simpa [List.getD, hlt, e1, e2] using this

theorem srcRows_spec {x : AV} {vx : Value} {no K : Nat} {kk : List (List AV) → Prop} (hI : Inv w F β st.H) (hx : Rd w F β x vx) (h : srcRows x no st.H kk) (hk : ∀ rows, kk rows → RowsLen rows K) :
    ∃ rows, kk rows ∧ ((vx = .slice none 0 0 ∧ rows = []) ∨ ∃ ad c news, vx = .slice (some ad) rows.length c ∧ Src w F K rows ad news) := by
  unfold srcRows at h
  split at h
  · rename_i rows
    refine ⟨rows, h, ?_⟩
    rcases hx.s_inv.s_form with ⟨rfl, a, rfl⟩ | ⟨b, off, c, K', v, hb, hc, hm, rfl, hK, hv⟩
    · cases a with
      | none => exact .inl ⟨rfl, rfl⟩
      | some ad => exact .inr ⟨ad, 0, [], rfl, by simp, fun j v hj => by simp at hj, fun u hu => by simp at hu, fun i j hi => by simp at hi⟩
    · obtain ⟨news, hn⟩ := src_of (hk _ h) hK hv
      exact .inr ⟨_, _, news, rfl, hn⟩
  · cases hx.v_inv
    exact ⟨[], h, .inl ⟨rfl, rfl⟩⟩
  · rename_i id
    cases hb : Nat.beq id no with
    | true => rw [hb] at h; exact h.elim
    | false =>
      rw [hb] at h
      simp only [cond_false] at h
      split at h
      · rename_i E K' rows hc
        refine ⟨rows, h, ?_⟩
        obtain ⟨a, n, c, hβ, rfl⟩ := hx.o_inv
        have hh := hI.holds _ _ (findC_mem hc)
        rcases own_form hh with ⟨rfl, a', hv⟩ | ⟨g, cap, hv, hm, hn⟩
        · rw [hβ] at hv
          cases hv
          cases a with
          | none => exact .inl ⟨rfl, rfl⟩
          | some ad =>
            refine .inr ⟨ad, 0, [], rfl, by simp, fun j v hj => by simp at hj, fun u hu => by simp at hu, fun i j hi => by simp at hi⟩
        · rw [hβ] at hv
          cases hv
          obtain ⟨_, _, _, u, hu⟩ := own_cell hh hβ
          obtain ⟨news, hn⟩ := src_of (b := g) (off := 0) (u := u) (hk _ h) (own_len hh) (fun i j hi hj => by have := hu i j hi hj; rwa [Nat.zero_add])
          exact .inr ⟨_, _, news, rfl, hn⟩
      · exact h.elim
  · exact h.elim

/-- A slice of the call's own in a block that was not there. -/
theorem own_fresh {d E K cap : Nat} {rows : List (List AV)} {us : Array Value} {w1 : World} (hd : d < 1000) (hI : Inv w F β st.H) (hh : w1.heap = w.heap) (ho : w1.os = w.os) (ht : SameT w w1) (hp : w1.output = w.output)
    (hs : us.size = cap * K) (hn : rows.length ≤ cap) (hm : cap ≤ maxLen) (hK : ∀ i, i < rows.length → (rows.getD i []).length = K)
    (hr : ∀ i j, i < rows.length → j < K → (us.getD (i * K + j) undef).oneCell' = true ∧ RdI w F ((rows.getD i []).getD j .junk) (us.getD (i * K + j) undef))
    (hk : k (.o d) (bindSt st d (.own E K rows))) : EPost w F β st k (.slice (some ⟨w.heap.size, 0, none⟩) rows.length cap) (w1.alloc (.cells us E)) := by
  have hal : ∀ b, b < w.heap.size → (w1.alloc (.cells us E)).heap[b]? = w.heap[b]? := fun b hb => by
    rw [_root_.Go.heap_alloc_old w1 _ (by rw [hh]; exact hb), hh]
  have hnew : (w1.alloc (.cells us E)).heap[w.heap.size]? = some (.cells us E (0, 0)) := by rw [← hh]; exact heap_alloc_new w1 _
  have ha : Agree F w (w1.alloc (.cells us E)) := fun b hb => hal b (hI.fsize b hb)
  refine ⟨_, _, F, _, hk, .o (by simp), ext_bind (v := .slice (some ⟨w.heap.size, 0, none⟩) rows.length cap) hd hI ho ht hp (by simp [hh]) (fun b hb _ => hal b hb) (fun i c b _ hm hb => hal b (hI.owned_lt ⟨i, c, hm, hb⟩)) (fun b hb => ?_) ?_⟩
  · cases h0 : Nat.beq cap 0 <;> simp [blkOf, h0] at hb
    left; omega
  · by_cases h0 : cap = 0
    · subst h0
      have : rows = [] := List.eq_nil_of_length_eq_zero (by omega)
      subst this
      exact .inl ⟨rfl, _, by simp; rfl⟩
    · exact .inr ⟨w.heap.size, cap, us, by simp, by omega, hnew, hn, hm, hs, hK, fun i j hi hj => ⟨(hr i j hi hj).1, (hr i j hi hj).2.frame ha fun _ h => h⟩⟩

theorem arrD (A : Array Value) (l : List Value) (h : A.toList = l) (i : Nat) : A.getD i undef = l.getD i undef := by
  subst h; simp [Array.getD_eq_getD_getElem?, List.getD]

theorem zeros_size (z : Array Value) (n : Nat) : (Builtin.zeroCells z n).size = n * z.size := by simp [Builtin.zeroCells]

theorem rows_append {rows rows' : List (List AV)} {K : Nat} {xs news zs : List Value} (hx : xs.length = rows.length * K) (hn : news.length = rows'.length * K)
    {Q : AV → Value → Prop} (h1 : ∀ i j, i < rows.length → j < K → Q ((rows.getD i []).getD j .junk) (xs.getD (i * K + j) undef))
    (h2 : ∀ i j, i < rows'.length → j < K → Q ((rows'.getD i []).getD j .junk) (news.getD (i * K + j) undef)) :
    ∀ i j, i < (rows ++ rows').length → j < K → Q (((rows ++ rows').getD i []).getD j .junk) ((xs ++ news ++ zs).getD (i * K + j) undef) := by
  intro i j hi hj
  have below : ∀ m n, m < n → m * K + j < n * K := fun m n h => by
    calc m * K + j < m * K + K := by omega
      _ = (m + 1) * K := by rw [Nat.add_mul]; omega
      _ ≤ n * K := Nat.mul_le_mul_right _ h
  simp only [List.length_append] at hi
  by_cases hlt : i < rows.length
  · have := below i rows.length hlt
    have e1 : (rows ++ rows').getD i [] = rows.getD i [] := by simp [List.getD, List.getElem?_append, hlt]
    have e2 : (xs ++ news ++ zs).getD (i * K + j) undef = xs.getD (i * K + j) undef := by
      simp [List.getD, List.getElem?_append, hx, this]
    rw [e1, e2]; exact h1 i j hlt hj
  · have hb := below (i - rows.length) rows'.length (by omega)
    have hge : rows.length * K ≤ i * K + j := Nat.le_trans (Nat.mul_le_mul_right K (Nat.le_of_not_lt hlt)) (Nat.le_add_right _ _)
    have e1 : (rows ++ rows').getD i [] = rows'.getD (i - rows.length) [] := by simp [List.getD, List.getElem?_append, hlt]
    have e0 : i * K + j - rows.length * K = (i - rows.length) * K + j := by rw [Nat.sub_mul]; have := Nat.mul_le_mul_right K (Nat.le_of_not_lt hlt); omega
    have e2 : (xs ++ news ++ zs).getD (i * K + j) undef = news.getD ((i - rows.length) * K + j) undef := by
      have h3 : ¬ i * K + j < rows.length * K := by omega
      simp [List.getD, List.getElem?_append, hx, hn, h3, e0, hb]
    rw [e1, e2]; exact h2 _ j (by omega) hj

theorem rows_append_len {rows rows' : List (List AV)} {K : Nat} (h1 : ∀ i, i < rows.length → (rows.getD i []).length = K) (h2 : RowsLen rows' K) : ∀ i, i < (rows ++ rows').length → ((rows ++ rows').getD i []).length = K := by
  intro i hi
  simp only [List.length_append] at hi
  by_cases hlt : i < rows.length
  · have e1 : (rows ++ rows').getD i [] = rows.getD i [] := by simp [List.getD, List.getElem?_append, hlt]
    rw [e1]; exact h1 i hlt
  · have hlt' : i - rows.length < rows'.length := by omega
    have e1 : (rows ++ rows').getD i [] = rows'[i - rows.length] := by simp [List.getD, List.getElem?_append, hlt, hlt']
    rw [e1]; exact h2 _ (List.getElem_mem _)


/-- There is room: the row with what is appended. -/
theorem run_append_room_row (w : World) (t tx ty e : TypeId) (i : TypeInfo) (ht : P.underlying t = some (.slice e)) (hi : P.info? e = some i) (g sLen sCap : Nat) (cur : Array Value) (hg : w.heap[g]? = some (.cells cur e (0, 0)))
    (x : Value) (n : Nat) (news : List Value) (hs : Go.Src P i.size tx x n news w) (hroom : sLen + n ≤ sCap) (hfit : sLen * i.size + news.length ≤ cur.size) :
    (Builtin.append_ #[t, tx] ty #[.slice (some ⟨g, 0, none⟩) sLen sCap, x]).run P w =
      .ok (.slice (some ⟨g, 0, none⟩) (sLen + n) sCap) (w.setRow g (cur.toList.take (sLen * i.size) ++ news ++ cur.toList.drop (sLen * i.size + news.length)).toArray) := by
  have hst := run_storeCells_at P g (sLen * i.size) e news 0 cur w hg (by simpa using hfit) hs.one
  simp only [Nat.add_zero] at hst
  rcases hs.kind with ⟨e', hk⟩ | hk <;> simp [Builtin.append_, run_underlying ht, run_underlying hk, sizeOf, typeInfo, hi, hs.len, hroom, hs.cells, Addr.add_lit, hst]

structure SrcR (w : World) (F : Nat → Prop) (K : Nat) (rows : List (List AV)) (news : List Value) : Prop where
  len : news.length = rows.length * K
  one : ∀ u, u ∈ news → u.oneCell' = true
  rd : ∀ i j, i < rows.length → j < K → RdI w F ((rows.getD i []).getD j .junk) (news.getD (i * K + j) undef)

/-- An append to a slice of the call's own, whatever room it has. 'id' names it; 'L' is the label that the result gets ('id' itself, or a new one where the slice is nil). -/
theorem append_sound {t tx e L : Nat} {i j : TI} {ty : TypeId} {rows rows' : List (List AV)} {v vx : Value} (hd : L < 1000) (hT : TOk P T) (hI : Inv w F β st.H) (hi : T t = some i) (he : i.kind = .slice e) (hj : T e = some j)
    (hb0 : j.bytes ≠ 0) (hz : j.zero.cells.size = j.cells)
    (hv : (rows = [] ∧ v = .slice none 0 0) ∨ ((L, Chunk.own e j.cells rows) ∈ st.H ∧ β L = v))
    (hx : ∃ news, Go.Src P j.cells tx vx rows'.length news w ∧ SrcR w F j.cells rows' news)
    (hlen : RowsLen rows' j.cells) (hbytes : (rows.length + rows'.length) * j.bytes ≤ 140737488355328)
    (hk : k (.o L) (bindSt st L (.own e j.cells (rows ++ rows')))) :
    ∃ v' w', (Builtin.append_ #[t, tx] ty #[v, vx]).run P w = .ok v' w' ∧ EPost w F β st k v' w' := by
  have hu := (hT _ _ hi).slice he
  obtain ⟨inf, hinf, hzero, hsize, hby⟩ := (hT _ _ hj).info
  have hnm : rows.length + rows'.length ≤ 140737488355328 := Nat.le_trans (Nat.le_mul_of_pos_right _ (Nat.pos_of_ne_zero hb0)) hbytes
  have hml : rows.length + rows'.length ≤ maxLen := by unfold maxLen; omega
  -- the same value again
  have same : ∀ a, (rows = [] ∧ v = .slice none 0 0) ∨ ((L, Chunk.own e j.cells rows) ∈ st.H ∧ β L = v) → rows' = [] → v = .slice a rows.length rows.length ∨ True → EPost w F β st k v w := by
    intro a hv' hr _
    subst hr
    refine ⟨_, _, F, fun q => if q = L then v else β q, hk, ?_, ext_bind (v := v) hd hI rfl ⟨rfl, fun _ => (by first | exact Nat.le_refl _ | exact Nat.le_succ _)⟩ rfl (Nat.le_refl _) (fun _ _ _ => rfl) (fun _ _ _ _ _ _ => rfl) (fun b hb => ?_) ?_⟩
    · rcases hv' with ⟨_, rfl⟩ | ⟨hm, hβ⟩
      · exact .o (by simp)
      · rcases own_form (hI.holds _ _ hm) with ⟨_, a, ha⟩ | ⟨g, cap, ha, _⟩
        · rw [hβ] at ha; subst ha; exact .o (by simp)
        · rw [hβ] at ha; subst ha; exact .o (by simp)
    · rcases hv' with ⟨_, rfl⟩ | ⟨hm, hβ⟩
      · simp [blkOf] at hb
      · exact .inr ⟨_, hm, by rw [hβ]; exact hb⟩
    · rw [List.append_nil]
      rcases hv' with ⟨rfl, rfl⟩ | ⟨hm, hβ⟩
      · exact .inl ⟨rfl, none, by simp⟩
      · have := hI.holds _ _ hm
        unfold Chunk.holds at this ⊢
        simpa [hβ] using this
  -- the slice's own shape
  have form : (rows = [] ∧ ∃ a, v = .slice a 0 0) ∨ ∃ g cap cur, (L, Chunk.own e j.cells rows) ∈ st.H ∧ β L = v ∧ v = .slice (some ⟨g, 0, none⟩) rows.length cap ∧ 0 < cap ∧ w.heap[g]? = some (.cells cur e (0, 0)) ∧ rows.length ≤ cap ∧ cap ≤ maxLen ∧
      cur.size = cap * j.cells ∧ (∀ i, i < rows.length → (rows.getD i []).length = j.cells) ∧
      ∀ q z, q < rows.length → z < j.cells → (cur.getD (q * j.cells + z) undef).oneCell' = true ∧ RdI w F ((rows.getD q []).getD z .junk) (cur.getD (q * j.cells + z) undef) := by
    rcases hv with ⟨hr, rfl⟩ | ⟨hm, hβ⟩
    · exact .inl ⟨hr, none, rfl⟩
    · rcases hI.holds _ _ hm with ⟨hr, a, ha⟩ | ⟨g, cap, cur, ha, h1, h2, h3, h4, h5, h6, h7⟩
      · exact .inl ⟨hr, a, by rw [← hβ, ha]⟩
      · exact .inr ⟨g, cap, cur, hm, hβ, by rw [← hβ, ha], h1, h2, h3, h4, h5, h6, h7⟩
  obtain ⟨news, hgs, hsrc⟩ := hx
  have hgs' : Go.Src P inf.size tx vx rows'.length news w := by rw [hsize]; exact hgs
  have hln : news.length = rows'.length * inf.size := by rw [hsize]; exact hsrc.len
  ·
    rcases form with ⟨rfl, a, rfl⟩ | ⟨g, cap, cur, hm, hβ, rfl, hcap, hg, hn, hmx, hcs, hK, hrd⟩
    · by_cases h0 : rows' = []
      · subst h0
        refine ⟨_, w, ?_, same none hv rfl (.inr True.intro)⟩
        have hn0 : news = [] := List.eq_nil_of_length_eq_zero (by simpa using hsrc.len)
        subst hn0
        exact run_append_nothing w t tx ty e inf hu hinf a 0 0 (Nat.le_refl _) vx hgs'
      · have hpos : 0 < rows'.length := List.length_pos_iff.2 h0
        simp only [List.length_nil, Nat.zero_add] at hbytes hnm hml
        have hgc := grownCap_ge w rows'.length 0 e
        have hgm := grownCap_le_maxLen w rows'.length 0 e hml
        have post : EPost w F β st k (.slice (some ⟨w.heap.size, 0, none⟩) rows'.length (grownCap w rows'.length 0 e)) (w.drew.alloc (.cells (news.toArray ++ Builtin.zeroCells j.zero.cells (grownCap w rows'.length 0 e - rows'.length)) e)) := by
          refine own_fresh (d := L) (K := j.cells) (rows := rows') hd hI rfl rfl ⟨rfl, fun _ => Nat.le_succ _⟩ rfl ?_ hgc hgm (fun q hq => ?_) (fun q z hq hz => ?_) (by simpa using hk)
          · simp only [Array.size_append, List.size_toArray, zeros_size, hsrc.len, hz, ← Nat.add_mul]; congr 1; omega
          · have := hlen (rows'.getD q []) (by rw [List.getD_eq_getElem?_getD, List.getElem?_eq_getElem hq]; exact List.getElem_mem _)
            exact this
          · have := rows_append (rows := []) (xs := []) (zs := (Builtin.zeroCells j.zero.cells (grownCap w rows'.length 0 e - rows'.length)).toList) (Q := fun x u => u.oneCell' = true ∧ RdI w F x u) (by simp) hsrc.len (fun _ _ h => by simp at h) (fun i j' hi hj' => ⟨hsrc.one _ ?_, hsrc.rd i j' hi hj'⟩) q z (by simpa using hq) hz
            · rw [arrD _ ([] ++ news ++ (Builtin.zeroCells j.zero.cells (grownCap w rows'.length 0 e - rows'.length)).toList) (by simp)]
              exact this
            · have hlt : i * j.cells + j' < news.length := by
                rw [hsrc.len]
                calc i * j.cells + j' < i * j.cells + j.cells := by omega
                  _ = (i + 1) * j.cells := by rw [Nat.add_mul]; omega
                  _ ≤ rows'.length * j.cells := Nat.mul_le_mul_right _ hi
              rw [List.getD_eq_getElem?_getD, List.getElem?_eq_getElem hlt]; exact List.getElem_mem _
        have hold : (Builtin.firstCells inf.size 0 (.slice a 0 0)).run P w.drew = .ok ([] : List Value).toArray w.drew := by cases a <;> simp [Builtin.firstCells, loadCells, loadCellsFrom]
        have hr := run_append_grow_src (P := P) w t tx ty e inf j.zero hu hinf hzero a 0 0 [] hold vx rows'.length news hgs' (by omega) (by omega) (by rw [hby]; exact growslice_fits (by omega) (by rw [Nat.zero_add]; exact hbytes))
        simp only [Nat.zero_add, List.nil_append] at hr
        exact ⟨_, _, hr, post⟩
    · -- a block of its own
      have hrc : rows.length * j.cells ≤ cap * j.cells := Nat.mul_le_mul_right _ hn
      have h0 : Nat.beq cap 0 = false := by cases cap <;> first | rfl | omega
      have hown : Owned β st.H g := ⟨L, _, hm, by rw [hβ]; simp [blkOf, h0]⟩
      let xs : List Value := cur.toList.take (rows.length * j.cells)
      have hxs : xs.length = rows.length * j.cells := by simp only [xs, List.length_take, Array.length_toList]; omega
      have below : ∀ (m n z : Nat), m < n → z < j.cells → m * j.cells + z < n * j.cells := fun m n z h hz => by
        calc m * j.cells + z < m * j.cells + j.cells := by omega
          _ = (m + 1) * j.cells := by rw [Nat.add_mul]; omega
          _ ≤ n * j.cells := Nat.mul_le_mul_right _ h
      have hxg : ∀ q z, q < rows.length → z < j.cells → xs.getD (q * j.cells + z) undef = cur.getD (q * j.cells + z) undef := fun q z hq hz => by
        have h1 := below q rows.length z hq hz
        have h2 : q * j.cells + z < cur.size := by omega
        simp [xs, List.getD, h1, h2]
      have h2 : ∀ q z, q < rows'.length → z < j.cells → (news.getD (q * j.cells + z) undef).oneCell' = true ∧ RdI w F ((rows'.getD q []).getD z .junk) (news.getD (q * j.cells + z) undef) := fun q z hq hz => by
        refine ⟨hsrc.one _ ?_, hsrc.rd q z hq hz⟩
        have hlt : q * j.cells + z < news.length := by rw [hsrc.len]; exact below q _ z hq hz
        rw [List.getD_eq_getElem?_getD, List.getElem?_eq_getElem hlt]; exact List.getElem_mem _
      have h1 : ∀ q z, q < rows.length → z < j.cells → (xs.getD (q * j.cells + z) undef).oneCell' = true ∧ RdI w F ((rows.getD q []).getD z .junk) (xs.getD (q * j.cells + z) undef) := fun q z hq hz => by
        rw [hxg q z hq hz]; exact hrd q z hq hz
      by_cases hroom : rows.length + rows'.length ≤ cap
      · have hfit : rows.length * inf.size + news.length ≤ cur.size := by
          rw [hln, hsize, hcs, ← Nat.add_mul]; exact Nat.mul_le_mul_right _ hroom
        have hr := run_append_room_row (P := P) w t tx ty e inf hu hinf g rows.length cap cur hg vx rows'.length news hgs' hroom hfit
        rw [hsize] at hr
        refine ⟨_, _, hr, _, _, F, fun q => if q = L then .slice (some ⟨g, 0, none⟩) (rows.length + rows'.length) cap else β q, hk, .o (by simp), ?_⟩
        have hoth : ∀ b cs, b ≠ g → (w.setRow g cs).heap[b]? = w.heap[b]? := fun b cs hb => setRow_other w g b cs hb
        refine ext_bind (v := .slice (some ⟨g, 0, none⟩) (rows.length + rows'.length) cap) hd hI rfl ⟨rfl, fun _ => (by first | exact Nat.le_refl _ | exact Nat.le_succ _)⟩ rfl (by simp) (fun b _ ho => hoth b _ fun e => ho (e ▸ hown)) (fun i' c' b hne hm' hb => hoth b _ fun e => hne (hI.disj i' c' L _ b hm' hm hb (by rw [hβ, e]; simp [blkOf, h0]))) (fun b hb => ?_) (.inr ?_)
        · refine .inr ⟨_, hm, ?_⟩
          rw [hβ]
          simpa [blkOf, h0] using hb
        · have ha : ∀ cs, Agree F w (w.setRow g cs) := fun cs b hb => hoth b cs fun e => hI.apart g hown (e ▸ hb)
          refine ⟨g, cap, (xs ++ news ++ cur.toList.drop (rows.length * j.cells + news.length)).toArray, by simp, hcap, setRow_heap w g cur _ e _ hg, by simpa using hroom, hmx, ?_, rows_append_len hK hlen, fun q z hq hz => ?_⟩
          · simp only [List.size_toArray, List.length_append, List.length_drop, Array.length_toList]
            rw [hsize] at hfit
            omega
          · have := rows_append (zs := cur.toList.drop (rows.length * j.cells + news.length)) (Q := fun x u => u.oneCell' = true ∧ RdI w F x u) hxs hsrc.len h1 h2 q z hq hz
            rw [arrD _ (xs ++ news ++ cur.toList.drop (rows.length * j.cells + news.length)) rfl]
            exact ⟨this.1, this.2.frame (ha _) fun _ h => h⟩
      · have hcell : ∀ q u, xs[q]? = some u → w.cell? ((⟨g, 0, none⟩ : Addr).add q) = some u := fun q u hq => by
          rw [Addr.add_lit, Nat.zero_add, cell_of_row w g q cur e (0, 0) hg]
          simp only [xs, List.getElem?_take] at hq
          split at hq
          · simpa using hq
          · cases hq
        have hold := run_firstCells_some (P := P) w.drew inf.size rows.length ⟨g, 0, none⟩ rows.length cap xs (by rw [hsize]; exact hxs) (by simpa using hcell)
        have hr := run_append_grow_src (P := P) w t tx ty e inf j.zero hu hinf hzero (some ⟨g, 0, none⟩) rows.length cap xs hold vx rows'.length news hgs' (by omega) (by omega) (by rw [hby]; exact growslice_fits (by omega) hbytes)
        refine ⟨_, _, hr, ?_⟩
        have hgc := grownCap_ge w (rows.length + rows'.length) cap e
        have hgm := grownCap_le_maxLen w (rows.length + rows'.length) cap e hml
        have := own_fresh (d := L) (E := e) (K := j.cells) (cap := grownCap w (rows.length + rows'.length) cap e) (rows := rows ++ rows') (us := (xs ++ news).toArray ++ Builtin.zeroCells j.zero.cells (grownCap w (rows.length + rows'.length) cap e - (rows.length + rows'.length)))
          (w1 := w.drew) (k := k) hd hI rfl rfl ⟨rfl, fun _ => Nat.le_succ _⟩ rfl ?_ (by simpa using hgc) hgm (rows_append_len hK hlen) (fun q z hq hz => ?_) hk
        · simpa using this
        · simp only [Array.size_append, List.size_toArray, List.length_append, zeros_size, hsrc.len, hxs, hz, ← Nat.add_mul]; congr 1; omega
        · have := rows_append (zs := (Builtin.zeroCells j.zero.cells (grownCap w (rows.length + rows'.length) cap e - (rows.length + rows'.length))).toList) (Q := fun x u => u.oneCell' = true ∧ RdI w F x u) hxs hsrc.len h1 h2 q z hq hz
          rw [arrD _ (xs ++ news ++ (Builtin.zeroCells j.zero.cells (grownCap w (rows.length + rows'.length) cap e - (rows.length + rows'.length))).toList) (by simp)]
          exact this

end
end Go.Cat
