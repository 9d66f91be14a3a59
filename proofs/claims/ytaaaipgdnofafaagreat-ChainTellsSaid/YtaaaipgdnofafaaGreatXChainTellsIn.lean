/- What a law of this seat may be handed, typed. No condition. -/
import Derived.Test.YtaaaipgdnofafaaGreatXChainTellsEn
import Derived.Test.YtaaaipgdnofafaaGreatXChainTellsCatP5
namespace Go.Proofs
set_option linter.all false
open Go Go.Cat
variable [M : Mono]

def ok_i64 (n : Int) : Prop := InI64 n
theorem dat_i64 {t : TypeId} (hu : Tryz.prog.underlying t = some (.int .i64)) {xs : List AV} (h : Dat Tryz.prog t xs) : ∃ x : Int, xs = Go.Cat.encI x ∧ ok_i64 x := by
  obtain ⟨n, rfl, hn⟩ := h.int_inv hu
  exact ⟨n, rfl, wf_i64 hn⟩

def okL_encI (l : List Int) : Prop := l.length ≤ 9223372036854775807 ∧ ∀ x, x ∈ l → ok_i64 x
theorem datL_encI {t : TypeId} (hu : Tryz.prog.underlying t = some (.slice 3)) {xs : List AV} (h : Dat Tryz.prog t xs) : ∃ x : List Int, xs = [.s (List.map Go.Cat.encI x)] ∧ okL_encI x := by
  obtain ⟨rows, rfl, hl, hr⟩ := h.slice_inv hu
  obtain ⟨l, rfl, hok⟩ := rows_map (c := Go.Cat.encI) (ok := ok_i64) fun r hr0 => dat_i64 (by kernel_rfl) (hr r hr0)
  exact ⟨l, rfl, by rw [List.length_map] at hl; exact hl, hok⟩

def ok_bool (_ : Bool) : Prop := True
theorem dat_bool {t : TypeId} (hu : Tryz.prog.underlying t = some .bool) {xs : List AV} (h : Dat Tryz.prog t xs) : ∃ x : Bool, xs = cB x ∧ ok_bool x := by
  obtain ⟨b, rfl⟩ := h.bool_inv hu
  exact ⟨b, rfl, trivial⟩

def okA_ok_bool_6 (l : List Bool) : Prop := l.length = 6 ∧ ∀ x, x ∈ l → ok_bool x
theorem datA_okA_ok_bool_6 {t : TypeId} (hu : Tryz.prog.underlying t = some (.array 6 4)) {xs : List AV} (h : Dat Tryz.prog t xs) : ∃ x : List Bool, xs = List.map vb x ∧ okA_ok_bool_6 x := by
  obtain ⟨l, rfl, hl, hok⟩ := DatF.rep_inv (c := vb) (ok := ok_bool) (fun ys h => by
    obtain ⟨n, rfl, hn⟩ := dat_bool (by kernel_rfl) h
    exact ⟨n, rfl, hn⟩) (h.arr_inv hu)
  exact ⟨l, rfl, hl, hok⟩

def ok_u8 (_ : UInt8) : Prop := True
theorem dat_u8 {t : TypeId} (hu : Tryz.prog.underlying t = some (.int .u8)) {xs : List AV} (h : Dat Tryz.prog t xs) : ∃ x : UInt8, xs = cU8 x ∧ ok_u8 x := by
  obtain ⟨n, rfl, hn⟩ := h.int_inv hu
  exact ⟨toU8 n, congrArg (fun m => [AV.v (.int .u8 m)]) (wf_u8 hn), trivial⟩

def okL_cU8 (l : List UInt8) : Prop := l.length ≤ 9223372036854775807 ∧ ∀ x, x ∈ l → ok_u8 x
theorem datL_cU8 {t : TypeId} (hu : Tryz.prog.underlying t = some (.slice 5)) {xs : List AV} (h : Dat Tryz.prog t xs) : ∃ x : List UInt8, xs = [.s (List.map cU8 x)] ∧ okL_cU8 x := by
  obtain ⟨rows, rfl, hl, hr⟩ := h.slice_inv hu
  obtain ⟨l, rfl, hok⟩ := rows_map (c := cU8) (ok := ok_u8) fun r hr0 => dat_u8 (by kernel_rfl) (hr r hr0)
  exact ⟨l, rfl, by rw [List.length_map] at hl; exact hl, hok⟩

def ok_u16 (n : Int) : Prop := 0 ≤ n ∧ n ≤ 65535
theorem dat_u16 {t : TypeId} (hu : Tryz.prog.underlying t = some (.int .u16)) {xs : List AV} (h : Dat Tryz.prog t xs) : ∃ x : Int, xs = c_u16 x ∧ ok_u16 x := by
  obtain ⟨n, rfl, hn⟩ := h.int_inv hu
  exact ⟨n, rfl, wf_u16 hn⟩

def ok_law26_Act (x : law26_Act) : Prop := ok_u8 x.Do ∧ ok_u8 x.Who ∧ ok_u16 x.N
theorem dat_law26_Act {t : TypeId} (hu : (Tryz.prog.underlying t).map (fun d => match d with | .struct fs => some (fs.toList.map (·.type)) | _ => none) = some (some [5, 5, 50])) {xs : List AV} (h : Dat Tryz.prog t xs) : ∃ x : law26_Act, xs = c_law26_Act x ∧ ok_law26_Act x := by
  have g0 := h.fields hu
  obtain ⟨a0, b0, e0, h0, g1⟩ := g0.cons_inv
  obtain ⟨x0, f0, o0⟩ := dat_u8 (by kernel_rfl) h0
  obtain ⟨a1, b1, e1, h1, g2⟩ := g1.cons_inv
  obtain ⟨x1, f1, o1⟩ := dat_u8 (by kernel_rfl) h1
  obtain ⟨a2, b2, e2, h2, g3⟩ := g2.cons_inv
  obtain ⟨x2, f2, o2⟩ := dat_u16 (by kernel_rfl) h2
  have e := g3.nil_inv
  subst e0 f0 e1 f1 e2 f2 e
  exact ⟨⟨x0, x1, x2⟩, rfl, o0, o1, o2⟩

def okL_c_law26_Act (l : List law26_Act) : Prop := l.length ≤ 9223372036854775807 ∧ ∀ x, x ∈ l → ok_law26_Act x
theorem datL_c_law26_Act {t : TypeId} (hu : Tryz.prog.underlying t = some (.slice 52)) {xs : List AV} (h : Dat Tryz.prog t xs) : ∃ x : List law26_Act, xs = [.s (List.map c_law26_Act x)] ∧ okL_c_law26_Act x := by
  obtain ⟨rows, rfl, hl, hr⟩ := h.slice_inv hu
  obtain ⟨l, rfl, hok⟩ := rows_map (c := c_law26_Act) (ok := ok_law26_Act) fun r hr0 => dat_law26_Act (by kernel_rfl) (hr r hr0)
  exact ⟨l, rfl, by rw [List.length_map] at hl; exact hl, hok⟩
end Go.Proofs
