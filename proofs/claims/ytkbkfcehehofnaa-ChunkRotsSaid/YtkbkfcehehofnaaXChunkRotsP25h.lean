/- Chunks, plain: one byte turned turns its block's sum. No condition. -/
import Derived.Test.YtkbkfcehehofnaaXChunkRotsP25g
namespace Go.Proofs
set_option linter.all false
open Go Go.Cat

theorem xor_cancel {a b c : Nat} (h : a ^^^ b = a ^^^ c) : b = c := by
  have := congrArg (a ^^^ ·) h
  simpa [← Nat.xor_assoc] using this
theorem xor_cancel' {a b c : Nat} (h : b ^^^ a = c ^^^ a) : b = c := xor_cancel (a := a) (by rw [Nat.xor_comm a b, h, Nat.xor_comm])

theorem sumNib_inj {y z : Nat} (hy : y < 4294967296) (hz : z < 4294967296) (h : sumNib y = sumNib z) : y = z := by
  unfold sumNib at h
  have key : ∀ w, w < 4294967296 → (sumTab.getD (w &&& 15) 0 ^^^ (w >>> 4)) >>> 28 = sumTab.getD (w &&& 15) 0 >>> 28 := by
    intro w hw
    rw [Nat.shiftRight_xor_distrib, ← Nat.shiftRight_add]
    have : w >>> (4 + 28) = 0 := by rw [Nat.shiftRight_eq_div_pow]; exact Nat.div_eq_of_lt (by simpa using hw)
    rw [this, Nat.xor_zero]
  have h28 := congrArg (· >>> 28) h
  simp only [key y hy, key z hz] at h28
  have hya : y &&& 15 < 16 := Nat.and_lt_two_pow (n := 4) y (by decide)
  have hza : z &&& 15 < 16 := Nat.and_lt_two_pow (n := 4) z (by decide)
  have tab : ∀ a b : Fin 16, sumTab.getD a.1 0 >>> 28 = sumTab.getD b.1 0 >>> 28 → a = b := by decide
  have hab : y &&& 15 = z &&& 15 := congrArg Fin.val (tab ⟨y &&& 15, hya⟩ ⟨z &&& 15, hza⟩ h28)
  rw [hab] at h
  have hs := xor_cancel h
  rw [Nat.shiftRight_eq_div_pow, Nat.shiftRight_eq_div_pow] at hs
  rw [show (15 : Nat) = 2 ^ 4 - 1 from rfl, Nat.and_two_pow_sub_one_eq_mod, Nat.and_two_pow_sub_one_eq_mod] at hab
  omega
theorem sumStep_inj {s t : Nat} (hs : s < 4294967296) (ht : t < 4294967296) {x : UInt8} (h : sumStep s x = sumStep t x) : s = t := by
  have h1 := xlt32 hs (byte_lt x)
  have h2 := xlt32 ht (byte_lt x)
  exact xor_cancel' (sumNib_inj h1 h2 (sumNib_inj (sumNib_lt h1) (sumNib_lt h2) h))
theorem sumStep_inj' {s : Nat} (hs : s < 4294967296) {x y : UInt8} (h : sumStep s x = sumStep s y) : x = y := by
  have h1 := xlt32 hs (byte_lt x)
  have h2 := xlt32 hs (byte_lt y)
  exact UInt8.toNat_inj.1 (xor_cancel (sumNib_inj h1 h2 (sumNib_inj (sumNib_lt h1) (sumNib_lt h2) h)))
theorem fold_inj : ∀ (b : List UInt8) {s t : Nat}, s < 4294967296 → t < 4294967296 → b.foldl sumStep s = b.foldl sumStep t → s = t
  | [], _, _, _, _, h => h
  | x :: b, _, _, hs, ht, h => sumStep_inj hs ht (fold_inj b (sumStep_lt hs x) (sumStep_lt ht x) h)
theorem fold_set : ∀ (b : List UInt8) (i : Nat) (y x : UInt8) {s : Nat}, s < 4294967296 → b[i]? = some x → (b.set i y).foldl sumStep s = b.foldl sumStep s → y = x
  | [], i, y, x, _, _, h, _ => by simp at h
  | z :: b, 0, y, x, s, hs, h, he => by
    simp at h; subst h
    exact sumStep_inj' hs (fold_inj b (sumStep_lt hs y) (sumStep_lt hs z) (by simpa using he))
  | z :: b, i + 1, y, x, s, hs, h, he => fold_set b i y x (sumStep_lt hs z) (by simpa using h) (by simpa using he)
theorem sumN_set {b : List UInt8} {i : Nat} {y x : UInt8} (h : b[i]? = some x) (he : sumN (b.set i y) = sumN b) : y = x :=
  fold_set b i y x (by decide) h (xor_cancel' he)

theorem blocks_set : ∀ (n : Nat) (d : List UInt8) (i : Nat) (y x : UInt8), d.length ≤ n → d[i]? = some x → blocksN (d.set i y) = blocksN d → y = x
  | 0, d, i, y, x, hl, h, _ => by
    have : d = [] := List.length_eq_zero_iff.1 (by omega)
    subst this; simp at h
  | n + 1, d, i, y, x, hl, h, he => by
    have hi : i < d.length := (List.getElem?_eq_some_iff.1 h).1
    have hne : d ≠ [] := fun e => by subst e; simp at hi
    have hne' : d.set i y ≠ [] := fun e => by have := congrArg List.length e; simp at this; exact hne this
    rw [blocksN_cons hne, blocksN_cons hne'] at he
    injection he with h1 h2
    rcases Nat.lt_or_ge i 16 with hc | hc
    · rw [List.take_set] at h1
      exact sumN_set (b := d.take 16) (by rw [List.getElem?_take_of_lt hc]; exact h) h1
    · rw [List.drop_set, if_neg (by omega)] at h2
      exact blocks_set n (d.drop 16) (i - 16) y x (by simp; omega) (by rw [List.getElem?_drop, show 16 + (i - 16) = i by omega]; exact h) h2

theorem p_New (id ver : Int) (data : List UInt8) (h : data.length ≤ 100000) : chunk_New id ver data = some ⟨id, ver, data, (blocksN data).map Int.ofNat⟩ := by
  unfold chunk_New
  rw [p_Clone_byte _ (by omega), Option.bind_some, p_Blocks _ (by omega), Option.bind_some]

/-- A copy as the laws draw one. -/
def mayC (id : UInt8) (ver : Int) (data : List UInt8) : api_Copy := ⟨Int.tmod (id.toNat : Int) 200, IntKind.i64.wrap ver, data.take 64, (blocksN (data.take 64)).map Int.ofNat⟩
theorem p_mayC (id : UInt8) (ver : Int) (data : List UInt8) : law25_may id ver data = some (mayC id ver data) := by
  refine Tot.eq ?_
  unfold law25_may mayC
  have hmin : (min (data.length : Int) 64).toNat = min data.length 64 := by omega
  have ht : data.take (min (data.length : Int) 64).toNat = data.take 64 := by
    rw [hmin]
    rcases Nat.le_total data.length 64 with h | h
    · rw [Nat.min_eq_left h, List.take_of_length_le (Nat.le_refl _), List.take_of_length_le h]
    · rw [Nat.min_eq_right h]
  rw [ht]
  exact Tot.chk (by omega) (Tot.bindeq (p_New _ _ _ (by simp; omega)) (Tot.ret rfl))

theorem xor_turn {n : Nat} (hn : n < 4294967296) {b : UInt8} (hb : b ≠ 0) : xorK .i64 (n : Int) (b.toNat : Int) ≠ n := by
  have hb' : b.toNat ≠ 0 := fun e => hb (UInt8.toNat_inj.1 e)
  have hbl := b.toNat_lt
  unfold xorK
  rw [BitVec.toNat_xor, ofInt_nat (by show n < 2 ^ 64; omega), ofInt_nat (by show b.toNat < 2 ^ 64; omega)]
  have hx : n ^^^ b.toNat < 4294967296 := xlt32 hn (byte_lt b)
  rw [IntWalk.i64_in _ ⟨by omega, by omega⟩]
  intro e
  have e : n ^^^ b.toNat = n := by omega
  exact hb' (xor_cancel (a := n) (by rw [e, Nat.xor_zero]))

theorem l_ChunkOdd (d : api_Disk) (id : UInt8) (ver : Int) (data : List UInt8) (at_ by_ : UInt8) : law25_ChunkOdd d id ver data at_ by_ = some true := by
  refine Tot.eq ?_
  unfold law25_ChunkOdd
  refine Tot.bindeq p_head (Tot.bind (R := fun b => b = false → modest d ∧ data ≠ [] ∧ by_ ≠ 0) ?_ fun b hb => Tot.ite (fun _ => Tot.ret rfl) fun hn => ?_)
  · refine Tot.bind (t_Great d) fun g hg => Tot.bind (R := fun b => b = false → modest d ∧ data ≠ []) (Tot.ite (fun _ => Tot.ret fun e => by cases e) fun hn => Tot.ret fun e => ⟨hg (by simpa using hn), fun h => by subst h; simp at e⟩) fun c hc => Tot.bind (R := fun b => b = false → modest d ∧ data ≠ [] ∧ by_ ≠ 0) (Tot.ite (fun _ => Tot.ret fun e => by cases e) fun hn => Tot.ret fun e => ⟨(hc (by simpa using hn)).1, (hc (by simpa using hn)).2, fun h => by subst h; simp at e⟩) fun _ h => Tot.ret h
  obtain ⟨hm, hne, hby⟩ := hb (by simpa using hn)
  have hd := hm.small
  refine Tot.bindeq (p_mayC id ver data) ?_
  have hdl : 0 < data.length := List.length_pos_iff.2 hne
  have htl : (data.take 64).length ≤ 64 := by simp; omega
  have htn : data.take 64 ≠ [] := fun e => by have := congrArg List.length e; rw [List.length_take, List.length_nil] at this; omega
  have hbl := blocksN_len (data.take 64)
  have hbn : blocksN (data.take 64) ≠ [] := by rw [blocksN_cons htn]; simp
  unfold mayC
  generalize Int.tmod (id.toNat : Int) 200 = i
  generalize IntKind.i64.wrap ver = v
  generalize hD : data.take 64 = D at *
  have hDl : 0 < D.length := List.length_pos_iff.2 htn
  have hBl : 0 < (blocksN D).length := List.length_pos_iff.2 hbn
  dsimp only
  simp only [List.nil_append, List.length_nil, List.length_map, Nat.zero_add]
  refine Tot.bind (R := (· = false)) (Tot.bind (R := (· = false)) (Tot.ite (fun h => absurd h (by simp; omega)) fun _ => Tot.ret (by simp; omega)) fun _ h => Tot.ret h) fun c hc => ?_
  subst hc
  refine Tot.ite (fun h => absurd h (by decide)) fun _ => ?_
  have ha : ∀ n : Nat, 0 < n → Int.tmod (at_.toNat : Int) (n : Int) = ((at_.toNat % n : Nat) : Int) := fun n _ => by
    rw [Int.tmod_eq_emod_of_nonneg (by omega)]; rfl
  rw [ha _ hBl, ha _ hDl]
  have hja : at_.toNat % (blocksN D).length < (blocksN D).length := Nat.mod_lt _ hBl
  have hka : at_.toNat % D.length < D.length := Nat.mod_lt _ hDl
  generalize at_.toNat % (blocksN D).length = j at hja ⊢
  generalize at_.toNat % D.length = k at hka ⊢
  have hbj : ((blocksN D).map Int.ofNat)[j]? = some ((blocksN D)[j] : Int) := by rw [List.getElem?_map, List.getElem?_eq_getElem hja]; rfl
  have hdk : D[k]? = some D[k] := List.getElem?_eq_getElem hka
  refine Tot.chk (by omega) (Tot.chk (by omega) (Tot.chk (by omega) (Tot.bindeq (idx_some hbj) (Tot.bindeq (idx_some hbj) (Tot.chk (by omega) (Tot.chk (by omega) (Tot.chk (by omega) (Tot.bindeq (idx_some hdk) (Tot.bindeq (idx_some hdk) (Tot.chk (by omega) (Tot.chk (by simp only [List.length_cons, List.length_nil]; omega) (Tot.chk (by decide) ?_))))))))))))
  refine Tot.bindeq (p_New _ _ _ (by simp)) ?_
  have put : ∀ c : api_Copy, c.Sums.length ≤ 1000 → ¬ mayP c → Tot (chunk_Put d c) (fun r => r.2 = 1) := fun c hl hno => ⟨_, p_Put d c hd (by omega), by unfold putN; rw [if_neg hno]⟩
  refine Tot.bind (put _ ?_ ?_) fun r1 h1 => Tot.bind (put _ ?_ ?_) fun r2 h2 => Tot.bind (put _ ?_ ?_) fun r3 h3 => Tot.bind (put _ ?_ ?_) fun r4 h4 => ?_
  · simp; omega
  · rintro ⟨-, -, -, h4⟩
    have := congrArg (·[j]?) h4
    simp only [Int.toNat_natCast] at this
    rw [List.getElem?_set_self (by simpa using hja), hbj] at this
    exact xor_turn (blocksF_lt _ _ _ (List.getElem_mem hja)) hby (Option.some.inj this)
  · simp; omega
  · rintro ⟨-, -, -, h4⟩
    simp only [Int.toNat_natCast] at h4
    have h4 : blocksN (D.set k (D[k] ^^^ by_)) = blocksN D := (List.map_inj_right (f := Int.ofNat) (fun a b h => by injection h)).1 h4.symm
    have := blocks_set D.length D k _ _ (Nat.le_refl _) hdk h4
    have h5 := congrArg UInt8.toNat this
    rw [UInt8.toNat_xor] at h5
    exact hby (UInt8.toNat_inj.1 (xor_cancel (a := D[k].toNat) (by rw [h5]; simp)))
  · simp; omega
  · rintro ⟨-, -, -, h4⟩
    have := congrArg List.length h4
    simp at this
  · simp
    have := blocksN_len (List.replicate 65 (0 : UInt8))
    simp at this; omega
  · rintro ⟨-, -, h3, -⟩
    simp at h3
  · rw [h1, h2, h3, h4]
    exact ⟨_, rfl, rfl⟩
end Go.Proofs
