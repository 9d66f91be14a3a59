/- What a law of this seat may be handed, typed. No condition. -/
import Derived.Test.YthhoomhekolbnaaXLeaseHasEn
import Derived.Test.YthhoomhekolbnaaCatP5
namespace Go.Proofs
set_option linter.all false
open Go Go.Cat
variable [M : Mono]

def ok_i64 (n : Int) : Prop := InI64 n
theorem dat_i64 {t : TypeId} (hu : Try.prog.underlying t = some (.int .i64)) {xs : List AV} (h : Dat Try.prog t xs) : ∃ x : Int, xs = Go.Cat.encI x ∧ ok_i64 x := by
  obtain ⟨n, rfl, hn⟩ := h.int_inv hu
  exact ⟨n, rfl, wf_i64 hn⟩

def ok_api_Span (x : api_Span) : Prop := ok_i64 x.From ∧ ok_i64 x.To
theorem dat_api_Span {t : TypeId} (hu : (Try.prog.underlying t).map (fun d => match d with | .struct fs => some (fs.toList.map (·.type)) | _ => none) = some (some [3, 3])) {xs : List AV} (h : Dat Try.prog t xs) : ∃ x : api_Span, xs = c_api_Span x ∧ ok_api_Span x := by
  have g0 := h.fields hu
  obtain ⟨a0, b0, e0, h0, g1⟩ := g0.cons_inv
  obtain ⟨x0, f0, o0⟩ := dat_i64 (by kernel_rfl) h0
  obtain ⟨a1, b1, e1, h1, g2⟩ := g1.cons_inv
  obtain ⟨x1, f1, o1⟩ := dat_i64 (by kernel_rfl) h1
  have e := g2.nil_inv
  subst e0 f0 e1 f1 e
  exact ⟨⟨x0, x1⟩, rfl, o0, o1⟩

def ok_api_Lease (x : api_Lease) : Prop := ok_i64 x.Client ∧ ok_i64 x.Ino ∧ ok_i64 x.Kind ∧ ok_api_Span x.Span ∧ ok_i64 x.Until ∧ ok_i64 x.Epoch
theorem dat_api_Lease {t : TypeId} (hu : (Try.prog.underlying t).map (fun d => match d with | .struct fs => some (fs.toList.map (·.type)) | _ => none) = some (some [3, 3, 3, 24, 3, 3])) {xs : List AV} (h : Dat Try.prog t xs) : ∃ x : api_Lease, xs = c_api_Lease x ∧ ok_api_Lease x := by
  have g0 := h.fields hu
  obtain ⟨a0, b0, e0, h0, g1⟩ := g0.cons_inv
  obtain ⟨x0, f0, o0⟩ := dat_i64 (by kernel_rfl) h0
  obtain ⟨a1, b1, e1, h1, g2⟩ := g1.cons_inv
  obtain ⟨x1, f1, o1⟩ := dat_i64 (by kernel_rfl) h1
  obtain ⟨a2, b2, e2, h2, g3⟩ := g2.cons_inv
  obtain ⟨x2, f2, o2⟩ := dat_i64 (by kernel_rfl) h2
  obtain ⟨a3, b3, e3, h3, g4⟩ := g3.cons_inv
  obtain ⟨x3, f3, o3⟩ := dat_api_Span (by kernel_rfl) h3
  obtain ⟨a4, b4, e4, h4, g5⟩ := g4.cons_inv
  obtain ⟨x4, f4, o4⟩ := dat_i64 (by kernel_rfl) h4
  obtain ⟨a5, b5, e5, h5, g6⟩ := g5.cons_inv
  obtain ⟨x5, f5, o5⟩ := dat_i64 (by kernel_rfl) h5
  have e := g6.nil_inv
  subst e0 f0 e1 f1 e2 f2 e3 f3 e4 f4 e5 f5 e
  exact ⟨⟨x0, x1, x2, x3, x4, x5⟩, rfl, o0, o1, o2, o3, o4, o5⟩

def okL_c_api_Lease (l : List api_Lease) : Prop := l.length ≤ 9223372036854775807 ∧ ∀ x, x ∈ l → ok_api_Lease x
theorem datL_c_api_Lease {t : TypeId} (hu : Try.prog.underlying t = some (.slice 26)) {xs : List AV} (h : Dat Try.prog t xs) : ∃ x : List api_Lease, xs = [.s (List.map c_api_Lease x)] ∧ okL_c_api_Lease x := by
  obtain ⟨rows, rfl, hl, hr⟩ := h.slice_inv hu
  obtain ⟨l, rfl, hok⟩ := rows_map (c := c_api_Lease) (ok := ok_api_Lease) fun r hr0 => dat_api_Lease (by kernel_rfl) (hr r hr0)
  exact ⟨l, rfl, by rw [List.length_map] at hl; exact hl, hok⟩

def ok_law22_Step (x : law22_Step) : Prop := ok_i64 x.Do ∧ ok_i64 x.Many ∧ ok_api_Lease x.Q
theorem dat_law22_Step {t : TypeId} (hu : (Try.prog.underlying t).map (fun d => match d with | .struct fs => some (fs.toList.map (·.type)) | _ => none) = some (some [3, 3, 26])) {xs : List AV} (h : Dat Try.prog t xs) : ∃ x : law22_Step, xs = c_law22_Step x ∧ ok_law22_Step x := by
  have g0 := h.fields hu
  obtain ⟨a0, b0, e0, h0, g1⟩ := g0.cons_inv
  obtain ⟨x0, f0, o0⟩ := dat_i64 (by kernel_rfl) h0
  obtain ⟨a1, b1, e1, h1, g2⟩ := g1.cons_inv
  obtain ⟨x1, f1, o1⟩ := dat_i64 (by kernel_rfl) h1
  obtain ⟨a2, b2, e2, h2, g3⟩ := g2.cons_inv
  obtain ⟨x2, f2, o2⟩ := dat_api_Lease (by kernel_rfl) h2
  have e := g3.nil_inv
  subst e0 f0 e1 f1 e2 f2 e
  exact ⟨⟨x0, x1, x2⟩, rfl, o0, o1, o2⟩

def okL_c_law22_Step (l : List law22_Step) : Prop := l.length ≤ 9223372036854775807 ∧ ∀ x, x ∈ l → ok_law22_Step x
theorem datL_c_law22_Step {t : TypeId} (hu : Try.prog.underlying t = some (.slice 64)) {xs : List AV} (h : Dat Try.prog t xs) : ∃ x : List law22_Step, xs = [.s (List.map c_law22_Step x)] ∧ okL_c_law22_Step x := by
  obtain ⟨rows, rfl, hl, hr⟩ := h.slice_inv hu
  obtain ⟨l, rfl, hok⟩ := rows_map (c := c_law22_Step) (ok := ok_law22_Step) fun r hr0 => dat_law22_Step (by kernel_rfl) (hr r hr0)
  exact ⟨l, rfl, by rw [List.length_map] at hl; exact hl, hok⟩

def ok_u16 (n : Int) : Prop := 0 ≤ n ∧ n ≤ 65535
theorem dat_u16 {t : TypeId} (hu : Try.prog.underlying t = some (.int .u16)) {xs : List AV} (h : Dat Try.prog t xs) : ∃ x : Int, xs = c_u16 x ∧ ok_u16 x := by
  obtain ⟨n, rfl, hn⟩ := h.int_inv hu
  exact ⟨n, rfl, wf_u16 hn⟩

def okA_ok_u16_2 (l : List Int) : Prop := l.length = 2 ∧ ∀ x, x ∈ l → ok_u16 x
theorem datA_okA_ok_u16_2 {t : TypeId} (hu : Try.prog.underlying t = some (.array 2 48)) {xs : List AV} (h : Dat Try.prog t xs) : ∃ x : List Int, xs = List.map a_u16 x ∧ okA_ok_u16_2 x := by
  obtain ⟨l, rfl, hl, hok⟩ := DatF.rep_inv (c := a_u16) (ok := ok_u16) (fun ys h => by
    obtain ⟨n, rfl, hn⟩ := dat_u16 (by kernel_rfl) h
    exact ⟨n, rfl, hn⟩) (h.arr_inv hu)
  exact ⟨l, rfl, hl, hok⟩

def okL_c_u16 (l : List Int) : Prop := l.length ≤ 9223372036854775807 ∧ ∀ x, x ∈ l → ok_u16 x
theorem datL_c_u16 {t : TypeId} (hu : Try.prog.underlying t = some (.slice 48)) {xs : List AV} (h : Dat Try.prog t xs) : ∃ x : List Int, xs = [.s (List.map c_u16 x)] ∧ okL_c_u16 x := by
  obtain ⟨rows, rfl, hl, hr⟩ := h.slice_inv hu
  obtain ⟨l, rfl, hok⟩ := rows_map (c := c_u16) (ok := ok_u16) fun r hr0 => dat_u16 (by kernel_rfl) (hr r hr0)
  exact ⟨l, rfl, by rw [List.length_map] at hl; exact hl, hok⟩

def ok_u8 (_ : UInt8) : Prop := True
theorem dat_u8 {t : TypeId} (hu : Try.prog.underlying t = some (.int .u8)) {xs : List AV} (h : Dat Try.prog t xs) : ∃ x : UInt8, xs = cU8 x ∧ ok_u8 x := by
  obtain ⟨n, rfl, hn⟩ := h.int_inv hu
  exact ⟨toU8 n, congrArg (fun m => [AV.v (.int .u8 m)]) (wf_u8 hn), trivial⟩

def ok_bool (_ : Bool) : Prop := True
theorem dat_bool {t : TypeId} (hu : Try.prog.underlying t = some .bool) {xs : List AV} (h : Dat Try.prog t xs) : ∃ x : Bool, xs = cB x ∧ ok_bool x := by
  obtain ⟨b, rfl⟩ := h.bool_inv hu
  exact ⟨b, rfl, trivial⟩
end Go.Proofs
