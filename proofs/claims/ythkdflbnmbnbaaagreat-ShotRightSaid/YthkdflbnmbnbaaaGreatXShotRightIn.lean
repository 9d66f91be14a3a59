/- What a law of this seat may be handed, typed. No condition. -/
import Derived.Test.YthkdflbnmbnbaaaGreatXShotRightEn
import Derived.Test.YthkdflbnmbnbaaaGreatXShotRightCatP5
namespace Go.Proofs
set_option linter.all false
open Go Go.Cat
variable [M : Mono]

def ok_u8 (_ : UInt8) : Prop := True
theorem dat_u8 {t : TypeId} (hu : Tryz.prog.underlying t = some (.int .u8)) {xs : List AV} (h : Dat Tryz.prog t xs) : ∃ x : UInt8, xs = cU8 x ∧ ok_u8 x := by
  obtain ⟨n, rfl, hn⟩ := h.int_inv hu
  exact ⟨toU8 n, congrArg (fun m => [AV.v (.int .u8 m)]) (wf_u8 hn), trivial⟩

def okL_cU8 (l : List UInt8) : Prop := l.length ≤ 9223372036854775807 ∧ ∀ x, x ∈ l → ok_u8 x
theorem datL_cU8 {t : TypeId} (hu : Tryz.prog.underlying t = some (.slice 5)) {xs : List AV} (h : Dat Tryz.prog t xs) : ∃ x : List UInt8, xs = [.s (List.map cU8 x)] ∧ okL_cU8 x := by
  obtain ⟨rows, rfl, hl, hr⟩ := h.slice_inv hu
  obtain ⟨l, rfl, hok⟩ := rows_map (c := cU8) (ok := ok_u8) fun r hr0 => dat_u8 (by kernel_rfl) (hr r hr0)
  exact ⟨l, rfl, by rw [List.length_map] at hl; exact hl, hok⟩

def ok_law07_Step (x : law07_Step) : Prop := ok_u8 x.Kind ∧ ok_u8 x.A ∧ ok_u8 x.B ∧ ok_u8 x.N ∧ ok_u8 x.M ∧ okL_cU8 x.Data
theorem dat_law07_Step {t : TypeId} (hu : (Tryz.prog.underlying t).map (fun d => match d with | .struct fs => some (fs.toList.map (·.type)) | _ => none) = some (some [5, 5, 5, 5, 5, 23])) {xs : List AV} (h : Dat Tryz.prog t xs) : ∃ x : law07_Step, xs = c_law07_Step x ∧ ok_law07_Step x := by
  have g0 := h.fields hu
  obtain ⟨a0, b0, e0, h0, g1⟩ := g0.cons_inv
  obtain ⟨x0, f0, o0⟩ := dat_u8 (by kernel_rfl) h0
  obtain ⟨a1, b1, e1, h1, g2⟩ := g1.cons_inv
  obtain ⟨x1, f1, o1⟩ := dat_u8 (by kernel_rfl) h1
  obtain ⟨a2, b2, e2, h2, g3⟩ := g2.cons_inv
  obtain ⟨x2, f2, o2⟩ := dat_u8 (by kernel_rfl) h2
  obtain ⟨a3, b3, e3, h3, g4⟩ := g3.cons_inv
  obtain ⟨x3, f3, o3⟩ := dat_u8 (by kernel_rfl) h3
  obtain ⟨a4, b4, e4, h4, g5⟩ := g4.cons_inv
  obtain ⟨x4, f4, o4⟩ := dat_u8 (by kernel_rfl) h4
  obtain ⟨a5, b5, e5, h5, g6⟩ := g5.cons_inv
  obtain ⟨x5, f5, o5⟩ := datL_cU8 (by kernel_rfl) h5
  have e := g6.nil_inv
  subst e0 f0 e1 f1 e2 f2 e3 f3 e4 f4 e5 f5 e
  exact ⟨⟨x0, x1, x2, x3, x4, x5⟩, rfl, o0, o1, o2, o3, o4, o5⟩

def ok_law10_Act (x : law10_Act) : Prop := ok_u8 x.Do ∧ ok_law07_Step x.S ∧ ok_u8 x.N
theorem dat_law10_Act {t : TypeId} (hu : (Tryz.prog.underlying t).map (fun d => match d with | .struct fs => some (fs.toList.map (·.type)) | _ => none) = some (some [5, 25, 5])) {xs : List AV} (h : Dat Tryz.prog t xs) : ∃ x : law10_Act, xs = c_law10_Act x ∧ ok_law10_Act x := by
  have g0 := h.fields hu
  obtain ⟨a0, b0, e0, h0, g1⟩ := g0.cons_inv
  obtain ⟨x0, f0, o0⟩ := dat_u8 (by kernel_rfl) h0
  obtain ⟨a1, b1, e1, h1, g2⟩ := g1.cons_inv
  obtain ⟨x1, f1, o1⟩ := dat_law07_Step (by kernel_rfl) h1
  obtain ⟨a2, b2, e2, h2, g3⟩ := g2.cons_inv
  obtain ⟨x2, f2, o2⟩ := dat_u8 (by kernel_rfl) h2
  have e := g3.nil_inv
  subst e0 f0 e1 f1 e2 f2 e
  exact ⟨⟨x0, x1, x2⟩, rfl, o0, o1, o2⟩

def okL_c_law10_Act (l : List law10_Act) : Prop := l.length ≤ 9223372036854775807 ∧ ∀ x, x ∈ l → ok_law10_Act x
theorem datL_c_law10_Act {t : TypeId} (hu : Tryz.prog.underlying t = some (.slice 27)) {xs : List AV} (h : Dat Tryz.prog t xs) : ∃ x : List law10_Act, xs = [.s (List.map c_law10_Act x)] ∧ okL_c_law10_Act x := by
  obtain ⟨rows, rfl, hl, hr⟩ := h.slice_inv hu
  obtain ⟨l, rfl, hok⟩ := rows_map (c := c_law10_Act) (ok := ok_law10_Act) fun r hr0 => dat_law10_Act (by kernel_rfl) (hr r hr0)
  exact ⟨l, rfl, by rw [List.length_map] at hl; exact hl, hok⟩

def okA_ok_u8_2 (l : List UInt8) : Prop := l.length = 2 ∧ ∀ x, x ∈ l → ok_u8 x
theorem datA_okA_ok_u8_2 {t : TypeId} (hu : Tryz.prog.underlying t = some (.array 2 5)) {xs : List AV} (h : Dat Tryz.prog t xs) : ∃ x : List UInt8, xs = List.map vu x ∧ okA_ok_u8_2 x := by
  obtain ⟨l, rfl, hl, hok⟩ := DatF.rep_inv (c := vu) (ok := ok_u8) (fun ys h => by
    obtain ⟨n, rfl, hn⟩ := dat_u8 (by kernel_rfl) h
    exact ⟨n, rfl, hn⟩) (h.arr_inv hu)
  exact ⟨l, rfl, hl, hok⟩
end Go.Proofs
