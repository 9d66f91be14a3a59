/- Small facts that the walks use: places, pieces, bytes, texts; calls that change a box. No condition. -/
import Derived.Test.YtkbkfcehehofnaaCatV
import Derived.Laws.Strings
namespace Go.Cat
set_option linter.all false
open Go.RowKit
variable [M : Mono]

abbrev vu (b : UInt8) : AV := .v (.int .u8 (b.toNat : Int))
abbrev vs (l : List UInt8) : AV := .v (.string ⟨l.toArray⟩)
def cU8 (b : UInt8) : List AV := [vu b]
def cB (b : Bool) : List AV := [vb b]
def cStr (l : List UInt8) : List AV := [vs l]
def c_u16 (n : Int) : List AV := [.v (.int .u16 n)]
def c_u32 (n : Int) : List AV := [.v (.int .u32 n)]
def c_u64 (n : Int) : List AV := [.v (.int .u64 n)]

theorem cU8_eq : cU8 = encB := rfl

theorem iteT {ρ : Type} {X Y : Option ρ} {r : ρ} (h : (if true = true then X else Y) = some r) : X = some r := by simpa using h
theorem iteF {ρ : Type} {X Y : Option ρ} {r : ρ} (h : (if false = true then X else Y) = some r) : Y = some r := by simpa using h

theorem out_ret {σ ρ : Type} {x : Option ρ} {y : σ ⊕ ρ} {r : ρ} (h : out x = some y) (hx : ∀ r', y = .inr r' → r' = r) : x = some r := by
  obtain ⟨r', h1, h2⟩ := out_some h
  rw [h1, hx r' h2]

/-! Rows. -/
section
variable {α : Type} {f : α → List AV} {l : List α}

theorem idx_row {i : Int} {x : α} (h : idx l i = some x) : (List.map f l)[i.toNat]? = some (f x) := by rw [List.getElem?_map, idx_get h]; rfl
theorem idx_ltm {i : Int} {x : α} (h : idx l i = some x) : i.toNat < (List.map f l).length := by rw [List.length_map]; exact idx_lt h
theorem set_row {n : Nat} {x : α} : (List.map f l).set n (f x) = List.map f (l.set n x) := List.map_set.symm
theorem rowsK {K : Nat} (h : ∀ x, (f x).length = K) (l : List α) : ∀ i, i < (List.map f l).length → ((List.map f l).getD i []).length = K := fun i hi => by
  rw [List.length_map] at hi
  simp [List.getD, hi, h]
theorem app_b1 {l' : List α} {b : Nat} (h : l'.length * b ≤ 140737488355328) : (List.map f l').length * b ≤ 140737488355328 := by rwa [List.length_map]
theorem app_b2 {l' : List α} {b : Nat} (h : (l.length + l'.length) * b ≤ 140737488355328) : ((List.map f l).length + (List.map f l').length) * b ≤ 140737488355328 := by rwa [List.length_map, List.length_map]
theorem sl_nat {i : Int} (h : 0 ≤ i) : i = (i.toNat : Int) := by omega
theorem sl_len {i : Int} (h : 0 ≤ i ∧ i ≤ (l.length : Int)) : i.toNat ≤ (List.map f l).length := by rw [List.length_map]; omega
theorem sl_own {i : Int} (h : 0 ≤ i ∧ i ≤ (l.length : Int)) : i.toNat ≤ (List.map f l).length := sl_len h
theorem sl_lh {a b n : Int} (h : 0 ≤ a ∧ a ≤ b ∧ b ≤ n) : 0 ≤ b := by omega
theorem sl_le {a b n : Int} (h : 0 ≤ a ∧ a ≤ b ∧ b ≤ n) : a.toNat ≤ b.toNat := by omega
theorem sl_len3 {a b : Int} (h : 0 ≤ a ∧ a ≤ b ∧ b ≤ (l.length : Int)) : b.toNat ≤ (List.map f l).length := by rw [List.length_map]; omega
theorem sl_all (f : α → List AV) (l : List α) : ((List.map f l).take (List.map f l).length).drop 0 = List.map f l := by rw [List.take_length]; rfl
theorem sl_take (f : α → List AV) (l : List α) (n : Nat) : ((List.map f l).take n).drop 0 = List.map f (l.take n) := by simp [List.map_take]
theorem sl_drop (f : α → List AV) (l : List α) (n : Nat) : ((List.map f l).take (List.map f l).length).drop n = List.map f (l.drop n) := by rw [List.take_length, List.map_drop]
theorem sl_sub (f : α → List AV) (l : List α) (a b : Int) : ((List.map f l).take b.toNat).drop a.toNat = List.map f (sub l a b) := by rw [sub, List.map_drop, List.map_take]
theorem mk_nat {n : Int} {b : Nat} (h : 0 ≤ n ∧ n.toNat * b ≤ 140737488355328) : n = (n.toNat : Int) := by omega
theorem mk_le {n : Int} {b : Nat} (hb : 0 < b) (h : 0 ≤ n ∧ n.toNat * b ≤ 140737488355328) : n.toNat ≤ 140737488355328 := Nat.le_trans (Nat.le_mul_of_pos_right _ hb) h.2
end

/-! Bytes. -/
theorem wrapU8 (n : Int) : IntKind.u8.wrap n = n % 256 := by rw [IntKind.wrap_u8]
theorem toU8_wrap (n : Int) : IntKind.u8.wrap n = ((toU8 n).toNat : Int) := by rw [wrapU8, toU8_toNat]
theorem u8_lt (b : UInt8) : (b.toNat : Int) < 256 := by have := b.toNat_lt; omega
theorem wrap_u8u8 (b : UInt8) : IntKind.u8.wrap (b.toNat : Int) = (b.toNat : Int) := by
  have := b.toNat_lt; rw [wrapU8]; omega
theorem b8_add (a b : UInt8) : IntKind.u8.wrap ((a.toNat : Int) + (b.toNat : Int)) = ((a + b).toNat : Int) := by rw [wrapU8, UInt8.toNat_add]; omega
theorem b8_sub (a b : UInt8) : IntKind.u8.wrap ((a.toNat : Int) - (b.toNat : Int)) = ((a - b).toNat : Int) := by
  have := a.toNat_lt; have := b.toNat_lt
  rw [wrapU8, UInt8.toNat_sub]; omega
theorem b8_mul (a b : UInt8) : IntKind.u8.wrap ((a.toNat : Int) * (b.toNat : Int)) = ((a * b).toNat : Int) := by
  rw [wrapU8, UInt8.toNat_mul]; have : ((a.toNat * b.toNat : Nat) : Int) = (a.toNat : Int) * (b.toNat : Int) := by simp
  omega
theorem b8_bv (c : UInt8) : BitVec.ofInt IntKind.u8.bits (c.toNat : Int) = c.toBitVec := by
  show BitVec.ofInt 8 (c.toNat : Int) = c.toBitVec
  rw [BitVec.ofInt_natCast]
  apply BitVec.eq_of_toNat_eq
  rw [BitVec.toNat_ofNat]
  exact Nat.mod_eq_of_lt c.toNat_lt
theorem b8_and (a b : UInt8) : IntKind.u8.wrap ((BitVec.ofInt IntKind.u8.bits (a.toNat : Int) &&& BitVec.ofInt IntKind.u8.bits (b.toNat : Int)).toNat : Int) = ((a &&& b).toNat : Int) := by
  rw [b8_bv, b8_bv]; exact wrap_u8u8 (a &&& b)
theorem b8_or (a b : UInt8) : IntKind.u8.wrap ((BitVec.ofInt IntKind.u8.bits (a.toNat : Int) ||| BitVec.ofInt IntKind.u8.bits (b.toNat : Int)).toNat : Int) = ((a ||| b).toNat : Int) := by
  rw [b8_bv, b8_bv]; exact wrap_u8u8 (a ||| b)
theorem b8_xor (a b : UInt8) : IntKind.u8.wrap ((BitVec.ofInt IntKind.u8.bits (a.toNat : Int) ^^^ BitVec.ofInt IntKind.u8.bits (b.toNat : Int)).toNat : Int) = ((a ^^^ b).toNat : Int) := by
  rw [b8_bv, b8_bv]; exact wrap_u8u8 (a ^^^ b)
theorem wrap_of_u8 {k : IntKind} (hk : (match k with | .i64 | .u64 | .i32 | .u32 | .i16 | .u16 => true | _ => false) = true) (b : UInt8) : k.wrap (b.toNat : Int) = (b.toNat : Int) := by
  have := b.toNat_lt
  cases k <;> first | (cases hk; done) | exact IntWalk.i64_in _ (by omega) | exact IntWalk.u64_in _ (by omega) | exact IntWalk.i32_in _ (by omega) | exact IntWalk.u32_in _ (by omega) | exact IntWalk.i16_in _ (by omega) | exact IntWalk.u16_in _ (by omega)
theorem b8_shl (a b : Int) : IntKind.u8.wrap (a * 2 ^ (min b.toNat IntKind.u8.bits)) = ((toU8 (shlK .u8 a b)).toNat : Int) := by
  rw [toU8_toNat]; unfold shlK; rw [wrapU8]; omega
theorem b8_shr (a : UInt8) (b : Int) : (a.toNat : Int).fdiv (2 ^ (min b.toNat IntKind.u8.bits)) = ((toU8 (shrK .u8 (a.toNat : Int) b)).toNat : Int) := by
  rw [toU8_toNat]; unfold shrK
  generalize hp : (2 : Int) ^ (min b.toNat IntKind.u8.bits) = p
  have hp' : 0 < p := by rw [← hp]; exact Int.pow_pos (by decide)
  have := a.toNat_lt
  rw [Int.fdiv_eq_ediv_of_nonneg _ (by omega)]
  have h1 : 0 ≤ (a.toNat : Int) / p := Int.ediv_nonneg (by omega) (by omega)
  have h2 : (a.toNat : Int) / p ≤ a.toNat := Int.ediv_le_self _ (by omega)
  omega

/-! Texts. -/
theorem str_size (l : List UInt8) : (ByteArray.mk l.toArray).size = l.length := by simp [ByteArray.size]
theorem toList_mk (l : List UInt8) : (ByteArray.mk l.toArray).toList = l := by
  rw [ByteArray.toList_eq]
theorem str_eql (a b : List UInt8) : ((ByteArray.mk a.toArray).toList == (ByteArray.mk b.toArray).toList) = (a == b) := by rw [toList_mk, toList_mk]
theorem str_neq (a b : List UInt8) : (!((ByteArray.mk a.toArray).toList == (ByteArray.mk b.toArray).toList)) = (!(a == b)) := by rw [toList_mk, toList_mk]
theorem str_lss (a b : List UInt8) : Op.bytesLess (ByteArray.mk a.toArray).toList (ByteArray.mk b.toArray).toList = Op.bytesLess a b := by rw [toList_mk, toList_mk]
theorem str_leq (a b : List UInt8) : (Op.bytesLess (ByteArray.mk a.toArray).toList (ByteArray.mk b.toArray).toList || (ByteArray.mk a.toArray).toList == (ByteArray.mk b.toArray).toList) = (Op.bytesLess a b || a == b) := by rw [toList_mk, toList_mk]
theorem str_gtr (a b : List UInt8) : (!(Op.bytesLess (ByteArray.mk a.toArray).toList (ByteArray.mk b.toArray).toList || (ByteArray.mk a.toArray).toList == (ByteArray.mk b.toArray).toList)) = (!(Op.bytesLess a b || a == b)) := by rw [toList_mk, toList_mk]
theorem str_geq (a b : List UInt8) : (!Op.bytesLess (ByteArray.mk a.toArray).toList (ByteArray.mk b.toArray).toList) = (!Op.bytesLess a b) := by rw [toList_mk, toList_mk]
theorem str_add {a b : List UInt8} (h : a.length + b.length ≤ 9223372036854775807) : (ByteArray.mk a.toArray).size + (ByteArray.mk b.toArray).size ≤ 9223372036854775807 := by rw [str_size, str_size]; exact h
theorem str_app (a b : List UInt8) : (ByteArray.mk a.toArray) ++ (ByteArray.mk b.toArray) = ByteArray.mk (a ++ b).toArray := by
  apply ByteArray.ext; simp
theorem str_max {l : List UInt8} (h : l.length ≤ 140737488355328) : (ByteArray.mk l.toArray).size ≤ maxLen := by rw [str_size]; unfold maxLen; omega
theorem str_s1 {l : List UInt8} {a b : Int} (h : 0 ≤ a ∧ a ≤ b ∧ b ≤ (l.length : Int)) : a.toNat ≤ b.toNat := by omega
theorem str_s2 {l : List UInt8} {a b : Int} (h : 0 ≤ a ∧ a ≤ b ∧ b ≤ (l.length : Int)) : b.toNat ≤ (ByteArray.mk l.toArray).size := by rw [str_size]; omega

/-! Arrays of numbers, laid in a box. -/
abbrev a_i32 (n : Int) : AV := .v (.int .i32 n)
abbrev a_u16 (n : Int) : AV := .v (.int .u16 n)
abbrev a_u32 (n : Int) : AV := .v (.int .u32 n)
abbrev a_u64 (n : Int) : AV := .v (.int .u64 n)
section
variable {f : Int → AV} {l l0 : List Int} {i x v : Int} {n : Nat}
theorem arr_ble (h : idx l i = some x) : Nat.ble (0 + i.toNat * 1 + 1) (List.map f l).length = true := by
  have := idx_lt h
  rw [Nat.ble_eq, List.length_map]; omega
theorem arr_get (h : idx l i = some x) : (List.map f l)[0 + i.toNat * 1]? = some (f x) := by
  rw [Nat.zero_add, Nat.mul_one, List.getElem?_map, idx_get h]; rfl
theorem arr_lt (h : idx l i = some x) (hc : i < (n : Int)) : i.toNat < n := by have := idx_nat h; omega
theorem arr_len (h : l.length = n) : Nat.ble (0 + n) (List.map f l).length = true := by rw [Nat.ble_eq, List.length_map]; omega
theorem arr_all (h : l.length = n) : ((List.map f l).drop 0).take n = List.map f l := by
  rw [List.drop_zero, List.take_of_length_le]; rw [List.length_map]; omega
theorem arr_st (h : idx l i = some x) : (true && (true && Nat.ble (0 + i.toNat * 1 + 1) (List.map f l).length)) = true := by
  rw [Bool.true_and, Bool.true_and]; exact arr_ble h
theorem arr_set (h : idx l i = some x) : (List.map f l).take (0 + i.toNat * 1) ++ ([f v] ++ (List.map f l).drop (0 + i.toNat * 1 + 1)) = List.map f (l.set i.toNat v) := by
  have hlt : i.toNat < (List.map f l).length := by rw [List.length_map]; exact idx_lt h
  rw [Nat.zero_add, Nat.mul_one, List.map_set, List.set_eq_take_append_cons_drop, if_pos hlt]; rfl
theorem arr_sto {c : List AV} (e : c = List.map f l) (h : l.length = n) (h0 : l0.length = n) : (true && (Nat.beq c.length n && Nat.ble (0 + n) (List.map f l0).length)) = true := by
  rw [e, Bool.true_and, Bool.and_eq_true, Nat.ble_eq, List.length_map, List.length_map, h, h0]
  exact ⟨Nat.beq_refl n, by omega⟩
theorem arr_seq {c : List AV} (e : c = List.map f l) (h0 : l0.length = n) : (List.map f l0).take 0 ++ (c ++ (List.map f l0).drop (0 + n)) = List.map f l := by
  rw [e, List.drop_eq_nil_of_le (by rw [List.length_map]; omega)]; simp
theorem Fz.arr {H : Hp} (hf : ∀ n, imm0 (f n) = true) : Fz H (.a (List.map f l)) (.a (List.map f l)) := Fz.imm (by simp [imm1, hf])
theorem er_map (hf : ∀ n d, er 1 d (f n) = f n) (d : Nat) (l : List Int) : List.map (er 1 d) (List.map f l) = List.map f l := by
  rw [List.map_map]; exact List.map_congr_left fun n _ => hf n d
theorem ChLe.arr1 (hf : ∀ n d, er 1 d (f n) = f n) {d : Nat} : ChLe (erC d (.box (List.map f l))) (.box (List.map f l)) := by
  have : erC d (.box (List.map f l)) = .box (List.map f l) := congrArg Chunk.box (er_map hf d l)
  rw [this]; exact .refl _
theorem ChLe.arr2 (hf : ∀ n d, er 1 d (f n) = f n) {d e : Nat} : ChLe (erC e (erC d (.box (List.map f l)))) (.box (List.map f l)) := by
  have : erC d (.box (List.map f l)) = .box (List.map f l) := congrArg Chunk.box (er_map hf d l)
  rw [this]; exact .arr1 hf
theorem ChLe.arr3 (hf : ∀ n d, er 1 d (f n) = f n) {d e g : Nat} : ChLe (erC g (erC e (erC d (.box (List.map f l))))) (.box (List.map f l)) := by
  have : erC d (.box (List.map f l)) = .box (List.map f l) := congrArg Chunk.box (er_map hf d l)
  rw [this]; exact .arr2 hf
end
theorem b8_quo (a b : Int) : IntKind.u8.wrap (a.tdiv b) = ((toU8 (quoK .u8 a b)).toNat : Int) := by
  rw [toU8_toNat]; unfold quoK; rw [wrapU8]; omega
theorem b8_rem (a : UInt8) (b : Int) : (a.toNat : Int).tmod b = ((toU8 (Int.tmod (a.toNat : Int) b)).toNat : Int) := by
  rw [toU8_toNat]
  have h1 : 0 ≤ (a.toNat : Int).tmod b := Int.tmod_nonneg _ (by omega)
  have h2 : (a.toNat : Int).tmod b ≤ a.toNat := by
    have := Int.natAbs_tmod (a.toNat : Int) b
    have h3 : ((a.toNat : Int).natAbs % b.natAbs) ≤ (a.toNat : Int).natAbs := Nat.mod_le _ _
    omega
  have := a.toNat_lt
  omega

/-! A call that changes a box, whose cells are known in other words. -/
theorem findC_set {id : Nat} {c : Chunk} : ∀ {H : Hp} {c0 : Chunk}, findC id H = some c0 → findC id (setC id c H) = some c
  | [], _, h => by cases h
  | (i, d) :: r, c0, h => by
    simp only [findC] at h
    cases hb : Nat.beq i id with
    | true => simp only [setC, hb, cond_true, findC]
    | false => rw [hb] at h; simp only [setC, hb, cond_false, findC]; exact findC_set h

theorem setC_setC {id : Nat} {c d : Chunk} : ∀ {H : Hp}, setC id d (setC id c H) = setC id d H
  | [] => rfl
  | (i, e) :: r => by
    cases hb : Nat.beq i id with
    | true => simp only [setC, hb, cond_true, setC_setC]
    | false => simp only [setC, hb, cond_false, setC_setC]

theorem CallOk.chgLe {P : Program} {g : FuncId} {id : Nat} {xs ys : List AV} {st : ASt} {c0 c : Chunk} {R : AV → Chunk → Prop} {k : AV → ASt → Prop} (h : PChg P g ys c R) (hc : findC id st.H = some c0) (hl : ChLe c0 c) (himm : chunkImm c = true) (hle : LrL id xs ys)
    (hk : ∀ r c', R r c' → k r ⟨st.f, setC id c' st.H⟩) : CallOk P g xs st k := by
  have h1 := CallOk.chg (st := ⟨st.f, setC id c st.H⟩) (k := fun r st' => ∃ c', R r c' ∧ st' = ⟨st.f, setC id c' (setC id c st.H)⟩) h (findC_set hc) himm hle (fun r c' hr => ⟨c', hr, rfl⟩)
  have hm0 := findC_mem hc
  refine ⟨h1.1, fun w F β vs hI hs hv => ?_⟩
  have hI' : Inv w F β (setC id c st.H) := by
    refine ⟨hI.fsize, fun i d hm => ?_, by rw [setC_keys]; exact hI.keys, fun b ⟨i, d, hm, hb⟩ => ?_, fun i d i' d' b hm hm' hb hb' => ?_⟩
    · rcases setC_mem hm with ⟨rfl, rfl, _⟩ | ⟨_, h2⟩
      · exact hl.holds (hI.holds _ _ hm0)
      · exact hI.holds i d h2
    · rcases setC_mem hm with ⟨rfl, _, d', h2⟩ | ⟨_, h2⟩ <;> exact hI.apart b ⟨i, _, h2, hb⟩
    · have hx : ∃ c, (i, c) ∈ st.H := by rcases setC_mem hm with ⟨_, _, c2, h2⟩ | ⟨_, h2⟩ <;> exact ⟨_, h2⟩
      have hy : ∃ c, (i', c) ∈ st.H := by rcases setC_mem hm' with ⟨_, _, c2, h2⟩ | ⟨_, h2⟩ <;> exact ⟨_, h2⟩
      obtain ⟨c2, h2⟩ := hx
      obtain ⟨c3, h3⟩ := hy
      exact hI.disj i c2 i' c3 b h2 h3 hb hb'
  refine (h1.2 w F β vs hI' hs hv).mono ?_
  rintro e w' ⟨v, rfl, r, st', F', β', ⟨c', hr, rfl⟩, hrd, he⟩
  have hset : setC id c' (setC id c st.H) = setC id c' st.H := setC_setC
  rw [hset] at he
  have hown : ∀ b, Owned β (setC id c st.H) b → Owned β st.H b := by
    rintro b ⟨i, d, hm, hb⟩
    rcases setC_mem hm with ⟨rfl, _, d', h2⟩ | ⟨_, h2⟩
    · exact ⟨i, d', h2, hb⟩
    · exact ⟨i, d, h2, hb⟩
  exact ⟨v, rfl, r, _, F', β', hk r c' hr, hrd, he.os, he.tape, he.output, he.size, fun b hb hno => he.block b hb fun ho => hno (hown b ho), he.mono, fun b hb => (he.new b hb).imp (fun h => h) fun h => h.imp (fun h => h) (hown b), fun b hb => (he.owned b hb).imp (fun h => h) (hown b), he.keep, he.inv, he.lab⟩
end Go.Cat
