/- Chunks, plain: copies read; the document's disks. No condition. -/
import Derived.Test.YtopkpflbhhhdfaaGreatXSweepKeepsP290j
namespace Go.Proofs
set_option linter.all false
open Go Go.Cat
set_option linter.all false



theorem and_one (a : Int) : andK .u64 a 1 = 0 ∨ andK .u64 a 1 = 1 := by
  unfold andK
  have h1 : (BitVec.ofInt 64 a &&& BitVec.ofInt 64 1).toNat ≤ 1 := by
    rw [BitVec.toNat_and]
    exact Nat.and_le_right
  have h2 : (BitVec.ofInt IntKind.u64.bits a &&& BitVec.ofInt IntKind.u64.bits 1).toNat ≤ 1 := h1
  generalize (BitVec.ofInt IntKind.u64.bits a &&& BitVec.ofInt IntKind.u64.bits 1).toNat = n at h2
  have : n = 0 ∨ n = 1 := by omega
  rcases this with rfl | rfl
  · left; decide
  · right; decide

theorem t_ReadInt (b : List UInt8) (hb : b.length ≤ 100000) : Tot (pack_ReadInt b) (fun r => r.2.1.length ≤ b.length) := by
  unfold pack_ReadInt pack_ReadInt_L1
  refine Tot.loop (fun s : Int × Int => 0 ≤ s.2 ∧ s.2 ≤ (b.length : Int)) (fun s => ((b.length : Int) - s.2).toNat) ?_ (0, 0) ⟨by simp, by simp⟩
  rintro ⟨u, i⟩ ⟨h0, h1⟩
  unfold pack_ReadInt_B1
  dsimp only at h0 h1 ⊢
  refine Tot.ite (fun hlt => ?_) (fun _ => Tot.out (Tot.ret (by simp)))
  have hlt : i < b.length := by simpa using hlt
  refine Tot.bind (Tot.idx h0 hlt (Q := fun _ => True) fun _ _ => trivial) fun x _ => ?_
  refine Tot.bind (R := fun _ => True) (Tot.bind (R := fun _ => True) (Tot.ite (fun _ => Tot.ret trivial) (fun _ => Tot.ret trivial)) fun _ _ => Tot.ret trivial) fun v _ => ?_
  refine Tot.ite (fun _ => Tot.out (Tot.ret (by simp))) fun _ => ?_
  refine Tot.chk (by unfold InI64; omega) (Tot.chk (by omega) ?_)
  refine Tot.ite (fun _ => Tot.chk (by unfold InI64; omega) (Tot.inl ⟨⟨by dsimp only; omega, by dsimp only; omega⟩, by dsimp only; omega⟩)) fun _ => ?_
  refine Tot.bind (R := fun _ => True) (Tot.bind (R := fun _ => True) (Tot.ite (fun _ => Tot.ret trivial) (fun _ => Tot.ret trivial)) fun _ _ => Tot.ret trivial) fun v2 _ => ?_
  refine Tot.ite (fun _ => Tot.out (Tot.ret (by simp))) fun _ => ?_
  refine Tot.chk ?_ (Tot.chk (by unfold InI64; omega) (Tot.chk (by omega) (Tot.out (Tot.ret (by simp)))))
  rcases and_one (orK .u64 u (shlK .u64 (((x &&& (127 : UInt8)).toNat : Int)) (7 * i))) with e | e
  · rw [e]; decide
  · rw [e]; decide

theorem t_num (s : pack_reader) (hb : s.rest_.b_.length ≤ 100000) : Tot (pack_reader_num s) (fun r => r.2.rest_.b_.length ≤ s.rest_.b_.length) := by
  unfold pack_reader_num
  exact Tot.ite (fun _ => Tot.ret (Nat.le_refl _)) fun _ => Tot.bind (t_ReadInt _ hb) fun r hr => Tot.ret hr
theorem t_count (s : pack_reader) (hb : s.rest_.b_.length ≤ 100000) : Tot (pack_reader_count s) (fun r => r.2.rest_.b_.length ≤ s.rest_.b_.length ∧ 0 ≤ r.1 ∧ r.1 ≤ r.2.rest_.b_.length) := by
  unfold pack_reader_count pack_reader_count_J1
  refine Tot.bind (t_num s hb) fun r hr => Tot.ite (fun _ => Tot.ret ⟨hr, by simp, by simp⟩) fun _ => Tot.ite (fun _ => Tot.ret ⟨hr, by simp, by simp⟩) fun h => Tot.ite (fun _ => Tot.ret ⟨hr, by simp, by simp⟩) fun h' => Tot.ret ⟨hr, by simpa using h, by simpa using h'⟩
theorem t_str (s : pack_reader) (hb : s.rest_.b_.length ≤ 100000) : Tot (pack_reader_str s) (fun r => r.2.rest_.b_.length ≤ s.rest_.b_.length ∧ r.1.length ≤ s.rest_.b_.length) := by
  unfold pack_reader_str pack_rest_take
  refine Tot.bind (t_count s hb) fun r hr => Tot.ite (fun _ => Tot.ret ⟨hr.1, by simp⟩) fun _ => ?_
  refine Tot.bind (R := fun q => q.2.rest_.b_.length ≤ s.rest_.b_.length ∧ q.1.length ≤ s.rest_.b_.length) (Tot.chk hr.2 (Tot.chk hr.2 (Tot.ret ⟨by simp; omega, by simp; omega⟩))) fun q hq => Tot.ret hq
theorem t_ReadStr (b : List UInt8) (hb : b.length ≤ 100000) : Tot (pack_ReadStr b) (fun r => r.1.length ≤ b.length ∧ r.2.1.length ≤ b.length) := by
  unfold pack_ReadStr
  exact Tot.bind (t_str ⟨⟨b⟩, 0⟩ hb) fun r hr => Tot.ite (fun _ => Tot.ret ⟨by simp, by simp⟩) fun _ => Tot.ret ⟨hr.2, hr.1⟩
theorem t_ReadInts (b : List UInt8) (hb : b.length ≤ 100000) : Tot (pack_ReadInts b) (fun r => r.1.length ≤ b.length ∧ r.2.1.length ≤ b.length) := by
  unfold pack_ReadInts pack_ReadInts_L1
  refine Tot.bind (R := fun v => v.1.length ≤ b.length ∧ v.2.2.length ≤ b.length) (Tot.bind (t_count ⟨⟨b⟩, 0⟩ hb) fun r hr => ?_) fun v hv => Tot.ite (fun _ => Tot.ret ⟨by simp, by simp⟩) fun _ => Tot.ret ⟨hv.2, hv.1⟩
  obtain ⟨h1, h2, h3⟩ := hr
  have h1 : r.2.rest_.b_.length ≤ b.length := h1
  refine Tot.loop (fun s => 0 ≤ s.1 ∧ s.2.1.length ≤ b.length ∧ (s.2.2.2.length : Int) = s.1 ∧ s.1 ≤ r.1) (fun s => (r.1 - s.1).toNat) ?_ _ ⟨by simp, h1, by simp, h2⟩
  rintro ⟨i, l, e, acc⟩ ⟨g1, g2, g3, g4⟩
  unfold pack_ReadInts_B1
  dsimp only at g1 g2 g3 g4 ⊢
  refine Tot.ite (fun hlt => ?_) (fun _ => Tot.out (Tot.ret ⟨g2, by dsimp only; omega⟩))
  have hlt : i < r.1 := by simpa using hlt
  refine Tot.bind (t_num ⟨⟨l⟩, e⟩ (by show l.length ≤ _; omega)) fun q hq => ?_
  have hq : q.2.rest_.b_.length ≤ l.length := hq
  refine Tot.chk (by simp only [List.length_cons, List.length_nil]; omega) (Tot.ite (fun _ => Tot.out (Tot.ret ⟨by dsimp only; omega, by simp; omega⟩)) fun _ => Tot.chk (by unfold InI64; omega) (Tot.inl ⟨⟨by dsimp only; omega, by dsimp only; omega, by simp; omega, by dsimp only; omega⟩, by dsimp only; omega⟩))

theorem t_rint (s : chunk_reader) (hb : s.b_.length ≤ 100000) : Tot (chunk_reader_int s) (fun r => r.2.b_.length ≤ s.b_.length) := by
  unfold chunk_reader_int chunk_take_int__pack_ReadInt
  refine Tot.bind (R := fun r => r.2.b_.length ≤ s.b_.length) (Tot.bind (t_ReadInt _ hb) fun r hr => Tot.bind (R := fun _ => True) (Tot.bind (R := fun _ => True) (Tot.ite (fun _ => Tot.ret trivial) (fun _ => Tot.ret trivial)) fun _ _ => Tot.ret trivial) fun v _ => Tot.ite (fun _ => Tot.ret (Nat.le_refl _)) (fun _ => Tot.ret hr)) fun r hr => Tot.ret hr
theorem t_rstr (s : chunk_reader) (hb : s.b_.length ≤ 100000) : Tot (chunk_take_string__pack_ReadStr s) (fun r => r.1.length ≤ s.b_.length ∧ r.2.b_.length ≤ s.b_.length) := by
  unfold chunk_take_string__pack_ReadStr
  exact Tot.bind (t_ReadStr _ hb) fun r hr => Tot.bind (R := fun _ => True) (Tot.bind (R := fun _ => True) (Tot.ite (fun _ => Tot.ret trivial) (fun _ => Tot.ret trivial)) fun _ _ => Tot.ret trivial) fun v _ => Tot.ite (fun _ => Tot.ret ⟨by simp, Nat.le_refl _⟩) (fun _ => Tot.ret hr)
theorem t_rints (s : chunk_reader) (hb : s.b_.length ≤ 100000) : Tot (chunk_take_int__pack_ReadInts s) (fun r => r.1.length ≤ s.b_.length ∧ r.2.b_.length ≤ s.b_.length) := by
  unfold chunk_take_int__pack_ReadInts
  exact Tot.bind (t_ReadInts _ hb) fun r hr => Tot.bind (R := fun _ => True) (Tot.bind (R := fun _ => True) (Tot.ite (fun _ => Tot.ret trivial) (fun _ => Tot.ret trivial)) fun _ _ => Tot.ret trivial) fun v _ => Tot.ite (fun _ => Tot.ret ⟨by simp, Nat.le_refl _⟩) (fun _ => Tot.ret hr)
theorem t_copy (s : chunk_reader) (hb : s.b_.length ≤ 100000) : Tot (chunk_reader_copy s) (fun r => r.1.1.Sums.length ≤ s.b_.length) := by
  unfold chunk_reader_copy
  refine Tot.bind (t_rint s hb) fun r1 h1 => Tot.bind (t_rint r1.2 (by omega)) fun r2 h2 => Tot.bind (t_rstr r2.2 (by omega)) fun r3 h3 => Tot.chk (by omega) (Tot.bind (t_rints r3.2 (by omega)) fun r4 h4 => ?_)
  exact Tot.bind (R := fun _ => True) (Tot.bind (R := fun _ => True) (Tot.ite (fun _ => Tot.ret trivial) (fun _ => Tot.ret trivial)) fun _ _ => Tot.ret trivial) fun v _ => Tot.ret (by dsimp only; omega)

theorem p_Same (a b : api_Copy) (h : a.Data.length ≤ 1000000 ∧ a.Sums.length ≤ 1000000) : Tot (ref25_Same a b) (Tells (a = b)) := by
  unfold ref25_Same
  refine Tot.bind (R := Tells ((((a.Id = b.Id) ∧ a.Ver = b.Ver) ∧ a.Data = b.Data) ∧ a.Sums = b.Sums)) ?_ fun v hv => Tot.ret (hv.trans ?_)
  · exact Tot.bind (Tot.andI (by simp) fun _ => Tot.is (by simp)) fun _ h1 => Tot.bind (Tot.andI h1 fun _ => Tot.bind (p_RBytes _ _ h.1) fun _ hb => Tot.ret hb) fun _ h2 => Tot.bind (Tot.andI h2 fun _ => Tot.bind (p_RInts _ _ h.2) fun _ hb => Tot.ret hb) fun _ h3 => Tot.ret h3
  · obtain ⟨a1, a2, a3, a4⟩ := a
    obtain ⟨b1, b2, b3, b4⟩ := b
    simp [and_assoc]

theorem t_GetS (d : api_Disk) (id : Int) (hd : smallD d) : Tot (chunk_Get d id) (fun r => (if (thereN d id).2 = 0 then r.2 = 0 ∨ r.2 = 251 else r.2 = (thereN d id).2) ∧ (r.1.Data.length ≤ 1000 ∧ r.1.Sums.length ≤ 1000) ∧ (r.2 = 0 → mayP r.1 ∧ r.1.Id = id ∧ pageN r.1 = (thereN d id).1) ∧ (r.2 ≠ 0 → r.1 = ⟨0, 0, [], []⟩)) := by
  unfold chunk_Get
  refine Tot.bindeq (p_there d id hd) ?_
  have hl := thereN_len hd id
  refine Tot.ite (fun h => Tot.ret ⟨by rw [if_neg (by simpa using h)], by simp, fun h0 => ?_, fun _ => rfl⟩) fun h => ?_
  · simp at h; exact (h h0).elim
  have h0 : (thereN d id).2 = 0 := by simpa using h
  have h251 : (251 : Int) = 0 → False := by decide
  simp only [if_pos h0]
  refine Tot.ite (fun _ => Tot.ret ⟨.inr rfl, by simp, fun h => (h251 h).elim, fun _ => rfl⟩) fun h4 => ?_
  have h4 : 4 ≤ (thereN d id).1.length := by simp at h4; omega
  refine Tot.chk (by unfold InI64; omega) (Tot.chk (by omega) ?_)
  refine Tot.bind (t_copy _ (by simp; omega)) fun r hr => ?_
  have hr : r.1.1.Sums.length ≤ 1000 := Nat.le_trans hr (by simp; omega)
  refine Tot.bind (R := fun v => v = false → mayP r.1.1 ∧ r.1.1.Id = id ∧ pageN r.1.1 = (thereN d id).1) ?_ fun v hv => Tot.ite (fun _ => Tot.ret ⟨.inr rfl, by simp, fun h => (h251 h).elim, fun _ => rfl⟩) (fun hn => ?_)
  · refine Tot.bind (R := fun c => c = false → mayP r.1.1) ?_ fun c1 hc1 => ?_
    · refine Tot.ite (fun hx => Tot.ret fun e => by cases e) fun hx => Tot.bind (p_may r.1.1 (by omega)) fun b hb => Tot.ret fun hh => hb.1 (by simpa using hh)
    refine Tot.bind (R := fun c => c = false → mayP r.1.1 ∧ r.1.1.Id = id) (Tot.ite (fun _ => Tot.ret fun e => by cases e) fun hc => Tot.ret fun e => ⟨hc1 (by simpa using hc), by simpa using e⟩) fun c2 hc2 => ?_
    refine Tot.bind (R := fun c => c = false → mayP r.1.1 ∧ r.1.1.Id = id ∧ pageN r.1.1 = (thereN d id).1) (Tot.ite (fun _ => Tot.ret fun e => by cases e) fun hc => ?_) fun c3 h => Tot.ret h
    have hp := hc2 (by simpa using hc)
    refine Tot.bindeq (p_page _ (mayP_small hp.1)) (Tot.bindeq rfl (Tot.ret fun e => ⟨hp.1, hp.2, by simpa using e⟩))
  · have hp := hv (by simpa using hn)
    have hs := mayP_small hp.1
    exact Tot.ret ⟨.inl rfl, ⟨hs.2.2.1, hs.2.2.2.1⟩, fun _ => hp, fun h => (h rfl).elim⟩

theorem Get_congr {d d' : api_Disk} {o : Int} (hd : smallD d) (hd' : smallD d') (h : thereN d o = thereN d' o) : chunk_Get d o = chunk_Get d' o := by
  unfold chunk_Get
  rw [p_there d o hd, p_there d' o hd', h]

def uniq (l : List api_Page) : Prop := ∀ i j : Nat, i < j → ∀ p q, l[i]? = some p → l[j]? = some q → p.At < q.At
def Asc (l : List api_Page) : Prop := l.Pairwise fun a b => a.At < b.At
def layN (S : List api_Page) (p : api_Page) : List api_Page := S.filter (fun x => decide (x.At < p.At)) ++ p :: S.filter (fun x => decide (p.At < x.At))
def layG (p : api_Page) (s : Bool × List api_Page) (x : api_Page) : Bool × List api_Page :=
  let s' := if (!s.1 && decide (x.At ≥ p.At)) then (true, s.2 ++ [p]) else s
  if x.At ≠ p.At then (s'.1, s'.2 ++ [x]) else s'

def syncN (d : api_Disk) : api_Disk × Int := if d.Down then (d, 40) else (⟨laidN d.Synced d.Loose, [], false⟩, 0)
end Go.Proofs
