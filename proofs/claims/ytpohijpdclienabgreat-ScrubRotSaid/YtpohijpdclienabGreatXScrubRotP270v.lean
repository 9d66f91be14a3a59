/- Rot, plain: a page with a byte turned is no page. No condition. -/
import Derived.Test.YtpohijpdclienabGreatXScrubRotP270u
namespace Go.Proofs
set_option linter.all false
open Go Go.Cat
set_option linter.all false
theorem xor_cancel {a b c : Nat} (h : a ^^^ b = a ^^^ c) : b = c := by
 have := congrArg (a ^^^ ·) h
 simpa [← Nat.xor_assoc] using this
theorem xor_cancel' {a b c : Nat} (h : b ^^^ a = c ^^^ a) : b = c := xor_cancel (a := a) (by rw [Nat.xor_comm a b, h, Nat.xor_comm])
theorem sumNib_inj {y z : Nat} (hy : y < 4294967296) (hz : z < 4294967296) (h : sumNib y = sumNib z) : y = z := by
 unfold sumNib at h
 have key : ∀ w, w < 4294967296 → (sumTab.getD (w &&& 15) 0 ^^^ (w >>> 4)) >>> 28 = sumTab.getD (w &&& 15) 0 >>> 28 := by
  intro w hw
  rw [Nat.shiftRight_xor_distrib, ← Nat.shiftRight_add]
  have : w >>> (4 + 28) = 0 := by rw [Nat.shiftRight_eq_div_pow]; exact Nat.div_eq_of_lt (by simpa using hw)
  rw [this, Nat.xor_zero]
 have h28 := congrArg (· >>> 28) h
 simp only [key y hy, key z hz] at h28
 have hya : y &&& 15 < 16 := Nat.and_lt_two_pow (n := 4) y (by decide)
 have hza : z &&& 15 < 16 := Nat.and_lt_two_pow (n := 4) z (by decide)
 have tab : ∀ a b : Fin 16, sumTab.getD a.1 0 >>> 28 = sumTab.getD b.1 0 >>> 28 → a = b := by decide
 have hab : y &&& 15 = z &&& 15 := congrArg Fin.val (tab ⟨y &&& 15, hya⟩ ⟨z &&& 15, hza⟩ h28)
 rw [hab] at h
 have hs := xor_cancel h
 rw [Nat.shiftRight_eq_div_pow, Nat.shiftRight_eq_div_pow] at hs
 rw [show (15 : Nat) = 2 ^ 4 - 1 from rfl, Nat.and_two_pow_sub_one_eq_mod, Nat.and_two_pow_sub_one_eq_mod] at hab
 omega
theorem sumStep_inj {s t : Nat} (hs : s < 4294967296) (ht : t < 4294967296) {x : UInt8} (h : sumStep s x = sumStep t x) : s = t := by
 have h1 := xlt32 hs (byte_lt x)
 have h2 := xlt32 ht (byte_lt x)
 exact xor_cancel' (sumNib_inj h1 h2 (sumNib_inj (sumNib_lt h1) (sumNib_lt h2) h))
theorem sumStep_inj' {s : Nat} (hs : s < 4294967296) {x y : UInt8} (h : sumStep s x = sumStep s y) : x = y := by
 have h1 := xlt32 hs (byte_lt x)
 have h2 := xlt32 hs (byte_lt y)
 exact UInt8.toNat_inj.1 (xor_cancel (sumNib_inj h1 h2 (sumNib_inj (sumNib_lt h1) (sumNib_lt h2) h)))
theorem fold_inj : ∀ (b : List UInt8) {s t : Nat}, s < 4294967296 → t < 4294967296 → b.foldl sumStep s = b.foldl sumStep t → s = t
 | [], _, _, _, _, h => h
 | x :: b, _, _, hs, ht, h => sumStep_inj hs ht (fold_inj b (sumStep_lt hs x) (sumStep_lt ht x) h)
theorem fold_set : ∀ (b : List UInt8) (i : Nat) (y x : UInt8) {s : Nat}, s < 4294967296 → b[i]? = some x → (b.set i y).foldl sumStep s = b.foldl sumStep s → y = x
 | [], i, y, x, _, _, h, _ => by simp at h
 | z :: b, 0, y, x, s, hs, h, he => by
  simp at h; subst h
  exact sumStep_inj' hs (fold_inj b (sumStep_lt hs y) (sumStep_lt hs z) (by simpa using he))
 | z :: b, i + 1, y, x, s, hs, h, he => fold_set b i y x (sumStep_lt hs z) (by simpa using h) (by simpa using he)
theorem sumN_set {b : List UInt8} {i : Nat} {y x : UInt8} (h : b[i]? = some x) (he : sumN (b.set i y) = sumN b) : y = x :=
 fold_set b i y x (by decide) h (xor_cancel' he)
theorem packN_le {u : Nat} (j : Nat) (h : u < 128 ^ (j + 1)) : (packN u).length ≤ j + 1 := sevens_len 10 j u h
theorem nums5 : ∀ l : List Nat, (∀ x ∈ l, x < 4294967296) → (numsN (l.map Int.ofNat)).length ≤ 5 * l.length
 | [], _ => by simp [numsN]
 | n :: l, h => by
  have hn := h n (List.mem_cons_self ..)
  have hz : zig (Int.ofNat n) < 128 ^ (4 + 1) := by
   unfold zig
   show (if (n : Int) < 0 then _ else _) < _
   rw [if_neg (by omega)]
   show (2 * (n : Int)).toNat < 34359738368
   omega
  have h1 := packN_le 4 hz
  have h2 := nums5 l fun x hx => h x (List.mem_cons_of_mem _ hx)
  unfold numsN at h2 ⊢
  simp at h1 h2 ⊢; omega
theorem p_IndexR (l : List api_Page) (a : Int) (h : l.length ≤ 100000) : disk_find_api_Page__disk_Rot_1 l a = some (match l.findIdx? (fun p => p.At == a) with | some n => (n : Int) | none => -1) := by
 unfold disk_find_api_Page__disk_Rot_1 slices_IndexFunc_api_Page_api_Page__disk_Rot_1 slices_IndexFunc_api_Page_api_Page__disk_Rot_1_L1
 have := loop_find (b := l) (B := slices_IndexFunc_api_Page_api_Page__disk_Rot_1_B1 l a) (fun p => p.At == a) (fun n _ => (n : Int)) (-1) ?_ ?_
 ·rw [this]
  simp only [Option.bind_some]
  congr 1
  cases hf : l.findIdx? (fun p => p.At == a) with
  | none => rfl
  | some n =>
   have := List.findIdx?_eq_some_iff_getElem.1 hf
   obtain ⟨hn, -⟩ := this
   simp [List.getElem?_eq_getElem hn]
 ·intro n x hx hn
  cases hc : x.At == a
  ·rw [if_neg (by decide)]
   refine Tot.eq ?_
   unfold slices_IndexFunc_api_Page_api_Page__disk_Rot_1_B1 disk_Rot_1
   exact Tot.ite (fun _ => Tot.bindeq (idx_some hx) (Tot.bindeq rfl (Tot.ite (fun h => by rw [hc] at h; cases h) (fun h => Tot.chk (by unfold InI64; omega) (Tot.ret rfl))))) (fun hh => absurd hh (by simp; omega))
  ·rw [if_pos rfl]
   refine Tot.eq ?_
   unfold slices_IndexFunc_api_Page_api_Page__disk_Rot_1_B1 disk_Rot_1
   exact Tot.ite (fun _ => Tot.bindeq (idx_some hx) (Tot.bindeq rfl (Tot.ite (fun h => ⟨_, rfl, rfl⟩) (fun h => absurd hc h)))) (fun hh => absurd hh (by simp; omega))
 ·unfold slices_IndexFunc_api_Page_api_Page__disk_Rot_1_B1 slices_IndexFunc_api_Page_api_Page__disk_Rot_1_J1
  rw [if_neg (by simp)]; rfl
theorem split_idx {a : Int} {p : api_Page} {l2 : List api_Page} (hp : p.At = a) : ∀ {l1 : List api_Page}, (∀ x, x ∈ l1 → x.At ≠ a) → (l1 ++ p :: l2).findIdx? (fun p => p.At == a) = some l1.length
 | [], _ => by simp [List.findIdx?_cons, hp]
 | q :: l1, h => by
  have hq : (q.At == a) = false := by simpa using h q (by simp)
  rw [List.cons_append, List.findIdx?_cons, hq, split_idx hp fun x hx => h x (by simp [hx])]
  rfl
def msk (bit : Int) : UInt8 := toU8 (shlK .u8 1 (Int.tmod bit 8))
theorem msk_ne {bit : Int} (h : 0 ≤ bit) : msk bit ≠ 0 := by
 have h1 : 0 ≤ bit.tmod 8 := Int.tmod_nonneg _ h
 have h2 : bit.tmod 8 < 8 := Int.tmod_lt_of_pos _ (by decide)
 unfold msk
 generalize bit.tmod 8 = r at h1 h2
 have : r = 0 ∨ r = 1 ∨ r = 2 ∨ r = 3 ∨ r = 4 ∨ r = 5 ∨ r = 6 ∨ r = 7 := by omega
 rcases this with h | h | h | h | h | h | h | h <;> subst h <;> decide
theorem xor_other {x m : UInt8} (h : m ≠ 0) : x ^^^ m ≠ x := fun e => h (by
 have : x ^^^ (x ^^^ m) = x ^^^ x := by rw [e]
 rwa [← UInt8.xor_assoc, UInt8.xor_self, UInt8.zero_xor] at this)
theorem wrapi {n : Int} (h : InI64 n) : IntKind.i64.wrap n = n := IntWalk.i64_in _ h
theorem quo8 {bit : Int} (h : 0 ≤ bit) (h1 : bit < 1000000) : quoK .i64 bit 8 = ((bit.toNat / 8 : Nat) : Int) := by
 unfold quoK
 rw [Int.tdiv_eq_ediv_of_nonneg h]
 have e : bit / 8 = ((bit.toNat / 8 : Nat) : Int) := by omega
 rw [e]
 exact wrapi (by unfold InI64; omega)
theorem rot_ok {l1 l2 L : List api_Page} {p : api_Page} {b : Bool} {a bit : Int} {x : UInt8} (hp : p.At = a) (hl : ∀ x, x ∈ l1 → x.At ≠ a) (hn : (l1 ++ p :: l2).length ≤ 1000) (hd : p.Data.length ≤ 1000)
  (h0 : 0 ≤ bit) (h1 : bit < 8 * (p.Data.length : Int)) (hx : p.Data[bit.toNat / 8]? = some x) :
  disk_Rot ⟨l1 ++ p :: l2, L, b⟩ a bit = some ⟨l1 ++ ⟨p.At, p.Data.set (bit.toNat / 8) (x ^^^ msk bit)⟩ :: l2, L, b⟩ := by
 have hi : (l1 ++ p :: l2)[l1.length]? = some p := by simp
 have hq := quo8 h0 (by omega)
 refine Tot.eq ?_
 unfold disk_Rot
 have e := p_IndexR (l1 ++ p :: l2) a (by omega)
 rw [split_idx hp hl] at e
 refine Tot.bindeq e (Tot.bind (R := (· = false)) ?_ fun v hv => ?_)
 ·refine Tot.bind (R := (· = false)) (Tot.ncond (by simp) (Tot.ret (by simp; omega))) fun v hv => ?_
  subst hv
  exact Tot.bind (R := (· = false)) (Tot.ncond (by decide) (Tot.bindeq (idx_some hi) (Tot.chk (by unfold InI64; omega) (Tot.ret (by simp; omega))))) fun _ h => Tot.ret h
 ·subst hv
  refine Tot.ncond (by decide) (Tot.bindeq (idx_some hi) (Tot.bindeq (p_bClone _ (by omega)) ?_))
  rw [hq]
  refine Tot.bindeq (idx_some hx) (Tot.chk (Int.tmod_nonneg _ h0) (Tot.bindeq (idx_some hx) (Tot.bindeq (p_Clone_page _ (by show (l1 ++ p :: l2).length ≤ _; omega)) (Tot.bindeq (idx_some hi) (Tot.ret ?_)))))
  show api_Disk.mk ((l1 ++ p :: l2).set l1.length _) L b = _
  rw [List.set_append_right _ _ (Nat.le_refl _), Nat.sub_self]
  rfl
theorem tailN_inj {u v : Nat} (hu : u < 4294967296) (hv : v < 4294967296) (h : tailN u = tailN v) : u = v := by
 unfold tailN at h
 have s : ∀ w : Nat, shrK .i64 (w : Int) 0 = ((w >>> 0 : Nat) : Int) ∧ shrK .i64 (w : Int) 8 = ((w >>> 8 : Nat) : Int) ∧ shrK .i64 (w : Int) 16 = ((w >>> 16 : Nat) : Int) ∧ shrK .i64 (w : Int) 24 = ((w >>> 24 : Nat) : Int) := fun w => ⟨shrK_nat (b := 0) (by decide), shrK_nat (b := 8) (by decide), shrK_nat (b := 16) (by decide), shrK_nat (b := 24) (by decide)⟩
 rw [(s u).1, (s u).2.1, (s u).2.2.1, (s u).2.2.2, (s v).1, (s v).2.1, (s v).2.2.1, (s v).2.2.2] at h
 simp only [List.cons.injEq, and_true] at h
 obtain ⟨h0, h1, h2, h3⟩ := h
 have e0 := congrArg UInt8.toNat h0
 have e1 := congrArg UInt8.toNat h1
 have e2 := congrArg UInt8.toNat h2
 have e3 := congrArg UInt8.toNat h3
 rw [toU8_nat, toU8_nat, UInt8.toNat_ofNat', UInt8.toNat_ofNat'] at e0 e1 e2 e3
 simp only [Nat.shiftRight_eq_div_pow] at e0 e1 e2 e3
 omega
theorem page_turned {c c' : api_Copy} {K : Nat} {x y : UInt8} (hx : (pageN c)[K]? = some x) (hy : y ≠ x) : pageN c' ≠ (pageN c).set K y := by
 intro e
 have l1 : ∀ k : api_Copy, (pageN k).length = (bodyN k).length + 4 := fun k => by simp [pageN, tailN]
 have hl : (bodyN c').length = (bodyN c).length := by
  have := congrArg List.length e
  rw [List.length_set, l1, l1] at this; omega
 have hK := (getR hx).1
 rcases Nat.lt_or_ge K (bodyN c).length with hk | hk
 ·have e1 : bodyN c' ++ tailN (sumN (bodyN c')) = (bodyN c).set K y ++ tailN (sumN (bodyN c)) := by
   have : (pageN c).set K y = (bodyN c).set K y ++ tailN (sumN (bodyN c)) := by unfold pageN; rw [List.set_append_left _ _ hk]
   rw [← this, ← e]; rfl
  obtain ⟨eb, et⟩ := List.append_inj e1 (by rw [List.length_set]; exact hl)
  have es := tailN_inj (sumN_lt _) (sumN_lt _) et
  rw [eb] at es
  have hx' : (bodyN c)[K]? = some x := by
   unfold pageN at hx
   rw [List.getElem?_append_left hk] at hx; exact hx
  exact hy (sumN_set hx' es)
 ·have e1 : bodyN c' ++ tailN (sumN (bodyN c')) = bodyN c ++ (tailN (sumN (bodyN c))).set (K - (bodyN c).length) y := by
   have : (pageN c).set K y = bodyN c ++ (tailN (sumN (bodyN c))).set (K - (bodyN c).length) y := by unfold pageN; rw [List.set_append_right _ _ hk]
   rw [← this, ← e]; rfl
  obtain ⟨eb, et⟩ := List.append_inj e1 hl
  have e2 : pageN c' = pageN c := by unfold pageN; rw [eb]
  rw [e2] at e
  have : (pageN c)[K]? = ((pageN c).set K y)[K]? := congrArg (fun l => l[K]?) e
  rw [List.getElem?_set_self hK, hx] at this
  exact hy (Option.some.inj this).symm
end Go.Proofs
