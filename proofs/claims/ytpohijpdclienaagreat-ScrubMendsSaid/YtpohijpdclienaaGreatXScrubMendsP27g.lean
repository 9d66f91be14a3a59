/- Chunks, plain: pages read. No condition. -/
import Derived.Test.YtpohijpdclienaaGreatXScrubMendsP27f
namespace Go.Proofs
set_option linter.all false
open Go Go.Cat
set_option linter.all false
theorem and_one (a : Int) : andK .u64 a 1 = 0 ∨ andK .u64 a 1 = 1 := by
 unfold andK
 have h1 : (BitVec.ofInt 64 a &&& BitVec.ofInt 64 1).toNat ≤ 1 := by
  rw [BitVec.toNat_and]
  exact Nat.and_le_right
 have h2 : (BitVec.ofInt IntKind.u64.bits a &&& BitVec.ofInt IntKind.u64.bits 1).toNat ≤ 1 := h1
 generalize (BitVec.ofInt IntKind.u64.bits a &&& BitVec.ofInt IntKind.u64.bits 1).toNat = n at h2
 have : n = 0 ∨ n = 1 := by omega
 rcases this with rfl | rfl
 ·left; decide
 ·right; decide
theorem t_ReadInt (b : List UInt8) (hb : b.length ≤ 100000) : Tot (pack_ReadInt b) (fun r => r.2.1.length ≤ b.length) := by
 unfold pack_ReadInt pack_ReadInt_L1
 refine Tot.loop (fun s : Int × Int => 0 ≤ s.2 ∧ s.2 ≤ (b.length : Int)) (fun s => ((b.length : Int) - s.2).toNat) ?_ (0, 0) ⟨by simp, by simp⟩
 rintro ⟨u, i⟩ ⟨h0, h1⟩
 unfold pack_ReadInt_B1
 dsimp only at h0 h1 ⊢
 refine Tot.ite (fun hlt => ?_) (fun _ => Tot.out (Tot.ret (by simp)))
 have hlt : i < b.length := by simpa using hlt
 refine Tot.bind (Tot.idx h0 hlt (Q := fun _ => True) fun _ _ => trivial) fun x _ => ?_
 refine Tot.bind (R := fun _ => True) (Tot.bind (R := fun _ => True) (Tot.ite (fun _ => Tot.ret trivial) (fun _ => Tot.ret trivial)) fun _ _ => Tot.ret trivial) fun v _ => ?_
 refine Tot.ite (fun _ => Tot.out (Tot.ret (by simp))) fun _ => ?_
 refine Tot.chk (by unfold InI64; omega) (Tot.chk (by omega) ?_)
 refine Tot.ite (fun _ => Tot.chk (by unfold InI64; omega) (Tot.inl ⟨⟨by dsimp only; omega, by dsimp only; omega⟩, by dsimp only; omega⟩)) fun _ => ?_
 refine Tot.bind (R := fun _ => True) (Tot.bind (R := fun _ => True) (Tot.ite (fun _ => Tot.ret trivial) (fun _ => Tot.ret trivial)) fun _ _ => Tot.ret trivial) fun v2 _ => ?_
 refine Tot.ite (fun _ => Tot.out (Tot.ret (by simp))) fun _ => ?_
 refine Tot.chk ?_ (Tot.chk (by unfold InI64; omega) (Tot.chk (by omega) (Tot.out (Tot.ret (by simp)))))
 rcases and_one (orK .u64 u (shlK .u64 (((x &&& (127 : UInt8)).toNat : Int)) (7 * i))) with e | e
 ·rw [e]; decide
 ·rw [e]; decide
theorem t_num (s : pack_reader) (hb : s.rest_.b_.length ≤ 100000) : Tot (pack_reader_num s) (fun r => r.2.rest_.b_.length ≤ s.rest_.b_.length) := by
 unfold pack_reader_num
 exact Tot.ite (fun _ => Tot.ret (Nat.le_refl _)) fun _ => Tot.bind (t_ReadInt _ hb) fun r hr => Tot.ret hr
theorem t_count (s : pack_reader) (hb : s.rest_.b_.length ≤ 100000) : Tot (pack_reader_count s) (fun r => r.2.rest_.b_.length ≤ s.rest_.b_.length ∧ 0 ≤ r.1 ∧ r.1 ≤ r.2.rest_.b_.length) := by
 unfold pack_reader_count pack_reader_count_J1
 refine Tot.bind (t_num s hb) fun r hr => Tot.ite (fun _ => Tot.ret ⟨hr, by simp, by simp⟩) fun _ => Tot.ite (fun _ => Tot.ret ⟨hr, by simp, by simp⟩) fun h => Tot.ite (fun _ => Tot.ret ⟨hr, by simp, by simp⟩) fun h' => Tot.ret ⟨hr, by simpa using h, by simpa using h'⟩
theorem t_str (s : pack_reader) (hb : s.rest_.b_.length ≤ 100000) : Tot (pack_reader_str s) (fun r => r.2.rest_.b_.length ≤ s.rest_.b_.length ∧ r.1.length ≤ s.rest_.b_.length) := by
 unfold pack_reader_str pack_rest_take
 refine Tot.bind (t_count s hb) fun r hr => Tot.ite (fun _ => Tot.ret ⟨hr.1, by simp⟩) fun _ => ?_
 refine Tot.bind (R := fun q => q.2.rest_.b_.length ≤ s.rest_.b_.length ∧ q.1.length ≤ s.rest_.b_.length) (Tot.chk hr.2 (Tot.chk hr.2 (Tot.ret ⟨by simp; omega, by simp; omega⟩))) fun q hq => Tot.ret hq
theorem t_ReadStr (b : List UInt8) (hb : b.length ≤ 100000) : Tot (pack_ReadStr b) (fun r => r.1.length ≤ b.length ∧ r.2.1.length ≤ b.length) := by
 unfold pack_ReadStr
 exact Tot.bind (t_str ⟨⟨b⟩, 0⟩ hb) fun r hr => Tot.ite (fun _ => Tot.ret ⟨by simp, by simp⟩) fun _ => Tot.ret ⟨hr.2, hr.1⟩
theorem t_ReadInts (b : List UInt8) (hb : b.length ≤ 100000) : Tot (pack_ReadInts b) (fun r => r.1.length ≤ b.length ∧ r.2.1.length ≤ b.length) := by
 unfold pack_ReadInts pack_ReadInts_L1
 refine Tot.bind (R := fun v => v.1.length ≤ b.length ∧ v.2.2.length ≤ b.length) (Tot.bind (t_count ⟨⟨b⟩, 0⟩ hb) fun r hr => ?_) fun v hv => Tot.ite (fun _ => Tot.ret ⟨by simp, by simp⟩) fun _ => Tot.ret ⟨hv.2, hv.1⟩
 obtain ⟨h1, h2, h3⟩ := hr
 have h1 : r.2.rest_.b_.length ≤ b.length := h1
 refine Tot.loop (fun s => 0 ≤ s.1 ∧ s.2.1.length ≤ b.length ∧ (s.2.2.2.length : Int) = s.1 ∧ s.1 ≤ r.1) (fun s => (r.1 - s.1).toNat) ?_ _ ⟨by simp, h1, by simp, h2⟩
 rintro ⟨i, l, e, acc⟩ ⟨g1, g2, g3, g4⟩
 unfold pack_ReadInts_B1
 dsimp only at g1 g2 g3 g4 ⊢
 refine Tot.ite (fun hlt => ?_) (fun _ => Tot.out (Tot.ret ⟨g2, by dsimp only; omega⟩))
 have hlt : i < r.1 := by simpa using hlt
 refine Tot.bind (t_num ⟨⟨l⟩, e⟩ (by show l.length ≤ _; omega)) fun q hq => ?_
 have hq : q.2.rest_.b_.length ≤ l.length := hq
 refine Tot.chk (by simp only [List.length_cons, List.length_nil]; omega) (Tot.ite (fun _ => Tot.out (Tot.ret ⟨by dsimp only; omega, by simp; omega⟩)) fun _ => Tot.chk (by unfold InI64; omega) (Tot.inl ⟨⟨by dsimp only; omega, by dsimp only; omega, by simp; omega, by dsimp only; omega⟩, by dsimp only; omega⟩))
theorem t_rint (s : chunk_reader) (hb : s.b_.length ≤ 100000) : Tot (chunk_reader_int s) (fun r => r.2.b_.length ≤ s.b_.length) := by
 unfold chunk_reader_int chunk_take_int__pack_ReadInt
 refine Tot.bind (R := fun r => r.2.b_.length ≤ s.b_.length) (Tot.bind (t_ReadInt _ hb) fun r hr => Tot.bind (R := fun _ => True) (Tot.bind (R := fun _ => True) (Tot.ite (fun _ => Tot.ret trivial) (fun _ => Tot.ret trivial)) fun _ _ => Tot.ret trivial) fun v _ => Tot.ite (fun _ => Tot.ret (Nat.le_refl _)) (fun _ => Tot.ret hr)) fun r hr => Tot.ret hr
theorem t_rstr (s : chunk_reader) (hb : s.b_.length ≤ 100000) : Tot (chunk_take_string__pack_ReadStr s) (fun r => r.1.length ≤ s.b_.length ∧ r.2.b_.length ≤ s.b_.length) := by
 unfold chunk_take_string__pack_ReadStr
 exact Tot.bind (t_ReadStr _ hb) fun r hr => Tot.bind (R := fun _ => True) (Tot.bind (R := fun _ => True) (Tot.ite (fun _ => Tot.ret trivial) (fun _ => Tot.ret trivial)) fun _ _ => Tot.ret trivial) fun v _ => Tot.ite (fun _ => Tot.ret ⟨by simp, Nat.le_refl _⟩) (fun _ => Tot.ret hr)
theorem t_rints (s : chunk_reader) (hb : s.b_.length ≤ 100000) : Tot (chunk_take_int__pack_ReadInts s) (fun r => r.1.length ≤ s.b_.length ∧ r.2.b_.length ≤ s.b_.length) := by
 unfold chunk_take_int__pack_ReadInts
 exact Tot.bind (t_ReadInts _ hb) fun r hr => Tot.bind (R := fun _ => True) (Tot.bind (R := fun _ => True) (Tot.ite (fun _ => Tot.ret trivial) (fun _ => Tot.ret trivial)) fun _ _ => Tot.ret trivial) fun v _ => Tot.ite (fun _ => Tot.ret ⟨by simp, Nat.le_refl _⟩) (fun _ => Tot.ret hr)
theorem t_copy (s : chunk_reader) (hb : s.b_.length ≤ 100000) : Tot (chunk_reader_copy s) (fun r => r.1.1.Sums.length ≤ s.b_.length) := by
 unfold chunk_reader_copy
 refine Tot.bind (t_rint s hb) fun r1 h1 => Tot.bind (t_rint r1.2 (by omega)) fun r2 h2 => Tot.bind (t_rstr r2.2 (by omega)) fun r3 h3 => Tot.chk (by omega) (Tot.bind (t_rints r3.2 (by omega)) fun r4 h4 => ?_)
 exact Tot.bind (R := fun _ => True) (Tot.bind (R := fun _ => True) (Tot.ite (fun _ => Tot.ret trivial) (fun _ => Tot.ret trivial)) fun _ _ => Tot.ret trivial) fun v _ => Tot.ret (by dsimp only; omega)
def zag (u : Nat) : Int := if u % 2 = 0 then ((u / 2 : Nat) : Int) else - ((u / 2 : Nat) : Int) - 1
theorem tf {b1 : Bool} {e : Int} (h1 : b1 = false) (he : e = 0) : Tot ((if b1 = true then some true else some (e != 0)).bind fun c1 => some c1) (· = false) := by
 subst h1 he; exact ⟨_, rfl, rfl⟩
end Go.Proofs
