/- What a law of this seat may be handed, typed. No condition. -/
import Derived.Test.YtpohijpdclienaaGreatXScrubDoesEn
import Derived.Test.YtpohijpdclienaaGreatXScrubDoesCatP5
namespace Go.Proofs
set_option linter.all false
open Go Go.Cat
variable [M : Mono]

def ok_i64 (n : Int) : Prop := InI64 n
theorem dat_i64 {t : TypeId} (hu : Tryz.prog.underlying t = some (.int .i64)) {xs : List AV} (h : Dat Tryz.prog t xs) : ∃ x : Int, xs = Go.Cat.encI x ∧ ok_i64 x := by
  obtain ⟨n, rfl, hn⟩ := h.int_inv hu
  exact ⟨n, rfl, wf_i64 hn⟩

def ok_u8 (_ : UInt8) : Prop := True
theorem dat_u8 {t : TypeId} (hu : Tryz.prog.underlying t = some (.int .u8)) {xs : List AV} (h : Dat Tryz.prog t xs) : ∃ x : UInt8, xs = cU8 x ∧ ok_u8 x := by
  obtain ⟨n, rfl, hn⟩ := h.int_inv hu
  exact ⟨toU8 n, congrArg (fun m => [AV.v (.int .u8 m)]) (wf_u8 hn), trivial⟩

def okL_cU8 (l : List UInt8) : Prop := l.length ≤ 9223372036854775807 ∧ ∀ x, x ∈ l → ok_u8 x
theorem datL_cU8 {t : TypeId} (hu : Tryz.prog.underlying t = some (.slice 5)) {xs : List AV} (h : Dat Tryz.prog t xs) : ∃ x : List UInt8, xs = [.s (List.map cU8 x)] ∧ okL_cU8 x := by
  obtain ⟨rows, rfl, hl, hr⟩ := h.slice_inv hu
  obtain ⟨l, rfl, hok⟩ := rows_map (c := cU8) (ok := ok_u8) fun r hr0 => dat_u8 (by kernel_rfl) (hr r hr0)
  exact ⟨l, rfl, by rw [List.length_map] at hl; exact hl, hok⟩

def ok_api_Page (x : api_Page) : Prop := ok_i64 x.At ∧ okL_cU8 x.Data
theorem dat_api_Page {t : TypeId} (hu : (Tryz.prog.underlying t).map (fun d => match d with | .struct fs => some (fs.toList.map (·.type)) | _ => none) = some (some [3, 50])) {xs : List AV} (h : Dat Tryz.prog t xs) : ∃ x : api_Page, xs = c_api_Page x ∧ ok_api_Page x := by
  have g0 := h.fields hu
  obtain ⟨a0, b0, e0, h0, g1⟩ := g0.cons_inv
  obtain ⟨x0, f0, o0⟩ := dat_i64 (by kernel_rfl) h0
  obtain ⟨a1, b1, e1, h1, g2⟩ := g1.cons_inv
  obtain ⟨x1, f1, o1⟩ := datL_cU8 (by kernel_rfl) h1
  have e := g2.nil_inv
  subst e0 f0 e1 f1 e
  exact ⟨⟨x0, x1⟩, rfl, o0, o1⟩

def okL_c_api_Page (l : List api_Page) : Prop := l.length ≤ 9223372036854775807 ∧ ∀ x, x ∈ l → ok_api_Page x
theorem datL_c_api_Page {t : TypeId} (hu : Tryz.prog.underlying t = some (.slice 107)) {xs : List AV} (h : Dat Tryz.prog t xs) : ∃ x : List api_Page, xs = [.s (List.map c_api_Page x)] ∧ okL_c_api_Page x := by
  obtain ⟨rows, rfl, hl, hr⟩ := h.slice_inv hu
  obtain ⟨l, rfl, hok⟩ := rows_map (c := c_api_Page) (ok := ok_api_Page) fun r hr0 => dat_api_Page (by kernel_rfl) (hr r hr0)
  exact ⟨l, rfl, by rw [List.length_map] at hl; exact hl, hok⟩

def ok_bool (_ : Bool) : Prop := True
theorem dat_bool {t : TypeId} (hu : Tryz.prog.underlying t = some .bool) {xs : List AV} (h : Dat Tryz.prog t xs) : ∃ x : Bool, xs = cB x ∧ ok_bool x := by
  obtain ⟨b, rfl⟩ := h.bool_inv hu
  exact ⟨b, rfl, trivial⟩

def ok_api_Disk (x : api_Disk) : Prop := okL_c_api_Page x.Synced ∧ okL_c_api_Page x.Loose ∧ ok_bool x.Down
theorem dat_api_Disk {t : TypeId} (hu : (Tryz.prog.underlying t).map (fun d => match d with | .struct fs => some (fs.toList.map (·.type)) | _ => none) = some (some [55, 55, 4])) {xs : List AV} (h : Dat Tryz.prog t xs) : ∃ x : api_Disk, xs = c_api_Disk x ∧ ok_api_Disk x := by
  have g0 := h.fields hu
  obtain ⟨a0, b0, e0, h0, g1⟩ := g0.cons_inv
  obtain ⟨x0, f0, o0⟩ := datL_c_api_Page (by kernel_rfl) h0
  obtain ⟨a1, b1, e1, h1, g2⟩ := g1.cons_inv
  obtain ⟨x1, f1, o1⟩ := datL_c_api_Page (by kernel_rfl) h1
  obtain ⟨a2, b2, e2, h2, g3⟩ := g2.cons_inv
  obtain ⟨x2, f2, o2⟩ := dat_bool (by kernel_rfl) h2
  have e := g3.nil_inv
  subst e0 f0 e1 f1 e2 f2 e
  exact ⟨⟨x0, x1, x2⟩, rfl, o0, o1, o2⟩

def okL_c_api_Disk (l : List api_Disk) : Prop := l.length ≤ 9223372036854775807 ∧ ∀ x, x ∈ l → ok_api_Disk x
theorem datL_c_api_Disk {t : TypeId} (hu : Tryz.prog.underlying t = some (.slice 57)) {xs : List AV} (h : Dat Tryz.prog t xs) : ∃ x : List api_Disk, xs = [.s (List.map c_api_Disk x)] ∧ okL_c_api_Disk x := by
  obtain ⟨rows, rfl, hl, hr⟩ := h.slice_inv hu
  obtain ⟨l, rfl, hok⟩ := rows_map (c := c_api_Disk) (ok := ok_api_Disk) fun r hr0 => dat_api_Disk (by kernel_rfl) (hr r hr0)
  exact ⟨l, rfl, by rw [List.length_map] at hl; exact hl, hok⟩

def okL_encI (l : List Int) : Prop := l.length ≤ 9223372036854775807 ∧ ∀ x, x ∈ l → ok_i64 x
theorem datL_encI {t : TypeId} (hu : Tryz.prog.underlying t = some (.slice 3)) {xs : List AV} (h : Dat Tryz.prog t xs) : ∃ x : List Int, xs = [.s (List.map Go.Cat.encI x)] ∧ okL_encI x := by
  obtain ⟨rows, rfl, hl, hr⟩ := h.slice_inv hu
  obtain ⟨l, rfl, hok⟩ := rows_map (c := Go.Cat.encI) (ok := ok_i64) fun r hr0 => dat_i64 (by kernel_rfl) (hr r hr0)
  exact ⟨l, rfl, by rw [List.length_map] at hl; exact hl, hok⟩

def ok_api_Chain (x : api_Chain) : Prop := ok_i64 x.Id ∧ ok_i64 x.Ver ∧ okL_encI x.Servers
theorem dat_api_Chain {t : TypeId} (hu : (Tryz.prog.underlying t).map (fun d => match d with | .struct fs => some (fs.toList.map (·.type)) | _ => none) = some (some [3, 3, 28])) {xs : List AV} (h : Dat Tryz.prog t xs) : ∃ x : api_Chain, xs = c_api_Chain x ∧ ok_api_Chain x := by
  have g0 := h.fields hu
  obtain ⟨a0, b0, e0, h0, g1⟩ := g0.cons_inv
  obtain ⟨x0, f0, o0⟩ := dat_i64 (by kernel_rfl) h0
  obtain ⟨a1, b1, e1, h1, g2⟩ := g1.cons_inv
  obtain ⟨x1, f1, o1⟩ := dat_i64 (by kernel_rfl) h1
  obtain ⟨a2, b2, e2, h2, g3⟩ := g2.cons_inv
  obtain ⟨x2, f2, o2⟩ := datL_encI (by kernel_rfl) h2
  have e := g3.nil_inv
  subst e0 f0 e1 f1 e2 f2 e
  exact ⟨⟨x0, x1, x2⟩, rfl, o0, o1, o2⟩

def okL_c_api_Chain (l : List api_Chain) : Prop := l.length ≤ 9223372036854775807 ∧ ∀ x, x ∈ l → ok_api_Chain x
theorem datL_c_api_Chain {t : TypeId} (hu : Tryz.prog.underlying t = some (.slice 31)) {xs : List AV} (h : Dat Tryz.prog t xs) : ∃ x : List api_Chain, xs = [.s (List.map c_api_Chain x)] ∧ okL_c_api_Chain x := by
  obtain ⟨rows, rfl, hl, hr⟩ := h.slice_inv hu
  obtain ⟨l, rfl, hok⟩ := rows_map (c := c_api_Chain) (ok := ok_api_Chain) fun r hr0 => dat_api_Chain (by kernel_rfl) (hr r hr0)
  exact ⟨l, rfl, by rw [List.length_map] at hl; exact hl, hok⟩

def ok_api_Job (x : api_Job) : Prop := ok_i64 x.Id ∧ ok_i64 x.Ver ∧ ok_i64 x.From ∧ ok_i64 x.To ∧ ok_i64 x.Have ∧ ok_i64 x.Left
theorem dat_api_Job {t : TypeId} (hu : (Tryz.prog.underlying t).map (fun d => match d with | .struct fs => some (fs.toList.map (·.type)) | _ => none) = some (some [3, 3, 3, 3, 3, 3])) {xs : List AV} (h : Dat Tryz.prog t xs) : ∃ x : api_Job, xs = c_api_Job x ∧ ok_api_Job x := by
  have g0 := h.fields hu
  obtain ⟨a0, b0, e0, h0, g1⟩ := g0.cons_inv
  obtain ⟨x0, f0, o0⟩ := dat_i64 (by kernel_rfl) h0
  obtain ⟨a1, b1, e1, h1, g2⟩ := g1.cons_inv
  obtain ⟨x1, f1, o1⟩ := dat_i64 (by kernel_rfl) h1
  obtain ⟨a2, b2, e2, h2, g3⟩ := g2.cons_inv
  obtain ⟨x2, f2, o2⟩ := dat_i64 (by kernel_rfl) h2
  obtain ⟨a3, b3, e3, h3, g4⟩ := g3.cons_inv
  obtain ⟨x3, f3, o3⟩ := dat_i64 (by kernel_rfl) h3
  obtain ⟨a4, b4, e4, h4, g5⟩ := g4.cons_inv
  obtain ⟨x4, f4, o4⟩ := dat_i64 (by kernel_rfl) h4
  obtain ⟨a5, b5, e5, h5, g6⟩ := g5.cons_inv
  obtain ⟨x5, f5, o5⟩ := dat_i64 (by kernel_rfl) h5
  have e := g6.nil_inv
  subst e0 f0 e1 f1 e2 f2 e3 f3 e4 f4 e5 f5 e
  exact ⟨⟨x0, x1, x2, x3, x4, x5⟩, rfl, o0, o1, o2, o3, o4, o5⟩

def ok_api_Find (x : api_Find) : Prop := ok_i64 x.Id ∧ ok_i64 x.Server ∧ ok_i64 x.What
theorem dat_api_Find {t : TypeId} (hu : (Tryz.prog.underlying t).map (fun d => match d with | .struct fs => some (fs.toList.map (·.type)) | _ => none) = some (some [3, 3, 3])) {xs : List AV} (h : Dat Tryz.prog t xs) : ∃ x : api_Find, xs = c_api_Find x ∧ ok_api_Find x := by
  have g0 := h.fields hu
  obtain ⟨a0, b0, e0, h0, g1⟩ := g0.cons_inv
  obtain ⟨x0, f0, o0⟩ := dat_i64 (by kernel_rfl) h0
  obtain ⟨a1, b1, e1, h1, g2⟩ := g1.cons_inv
  obtain ⟨x1, f1, o1⟩ := dat_i64 (by kernel_rfl) h1
  obtain ⟨a2, b2, e2, h2, g3⟩ := g2.cons_inv
  obtain ⟨x2, f2, o2⟩ := dat_i64 (by kernel_rfl) h2
  have e := g3.nil_inv
  subst e0 f0 e1 f1 e2 f2 e
  exact ⟨⟨x0, x1, x2⟩, rfl, o0, o1, o2⟩
end Go.Proofs
