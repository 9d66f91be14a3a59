/- What a law of this seat may be handed, typed. No condition. -/
import Derived.Test.YtopkpflbhhhdfaaGreatXSweepKeepsEn
import Derived.Test.YtopkpflbhhhdfaaGreatCatP5
namespace Go.Proofs
set_option linter.all false
open Go Go.Cat
variable [M : Mono]

def ok_i64 (n : Int) : Prop := InI64 n
theorem dat_i64 {t : TypeId} (hu : Tryz.prog.underlying t = some (.int .i64)) {xs : List AV} (h : Dat Tryz.prog t xs) : ∃ x : Int, xs = Go.Cat.encI x ∧ ok_i64 x := by
  obtain ⟨n, rfl, hn⟩ := h.int_inv hu
  exact ⟨n, rfl, wf_i64 hn⟩

def ok_api_Named (x : api_Named) : Prop := ok_i64 x.Ino ∧ ok_i64 x.Shot ∧ ok_i64 x.Page ∧ ok_i64 x.Id
theorem dat_api_Named {t : TypeId} (hu : (Tryz.prog.underlying t).map (fun d => match d with | .struct fs => some (fs.toList.map (·.type)) | _ => none) = some (some [3, 3, 3, 3])) {xs : List AV} (h : Dat Tryz.prog t xs) : ∃ x : api_Named, xs = c_api_Named x ∧ ok_api_Named x := by
  have g0 := h.fields hu
  obtain ⟨a0, b0, e0, h0, g1⟩ := g0.cons_inv
  obtain ⟨x0, f0, o0⟩ := dat_i64 (by kernel_rfl) h0
  obtain ⟨a1, b1, e1, h1, g2⟩ := g1.cons_inv
  obtain ⟨x1, f1, o1⟩ := dat_i64 (by kernel_rfl) h1
  obtain ⟨a2, b2, e2, h2, g3⟩ := g2.cons_inv
  obtain ⟨x2, f2, o2⟩ := dat_i64 (by kernel_rfl) h2
  obtain ⟨a3, b3, e3, h3, g4⟩ := g3.cons_inv
  obtain ⟨x3, f3, o3⟩ := dat_i64 (by kernel_rfl) h3
  have e := g4.nil_inv
  subst e0 f0 e1 f1 e2 f2 e3 f3 e
  exact ⟨⟨x0, x1, x2, x3⟩, rfl, o0, o1, o2, o3⟩

def okL_c_api_Named (l : List api_Named) : Prop := l.length ≤ 9223372036854775807 ∧ ∀ x, x ∈ l → ok_api_Named x
theorem datL_c_api_Named {t : TypeId} (hu : Tryz.prog.underlying t = some (.slice 40)) {xs : List AV} (h : Dat Tryz.prog t xs) : ∃ x : List api_Named, xs = [.s (List.map c_api_Named x)] ∧ okL_c_api_Named x := by
  obtain ⟨rows, rfl, hl, hr⟩ := h.slice_inv hu
  obtain ⟨l, rfl, hok⟩ := rows_map (c := c_api_Named) (ok := ok_api_Named) fun r hr0 => dat_api_Named (by kernel_rfl) (hr r hr0)
  exact ⟨l, rfl, by rw [List.length_map] at hl; exact hl, hok⟩

def ok_api_Room (x : api_Room) : Prop := ok_i64 x.Id ∧ ok_i64 x.Ino ∧ ok_i64 x.Client
theorem dat_api_Room {t : TypeId} (hu : (Tryz.prog.underlying t).map (fun d => match d with | .struct fs => some (fs.toList.map (·.type)) | _ => none) = some (some [3, 3, 3])) {xs : List AV} (h : Dat Tryz.prog t xs) : ∃ x : api_Room, xs = c_api_Room x ∧ ok_api_Room x := by
  have g0 := h.fields hu
  obtain ⟨a0, b0, e0, h0, g1⟩ := g0.cons_inv
  obtain ⟨x0, f0, o0⟩ := dat_i64 (by kernel_rfl) h0
  obtain ⟨a1, b1, e1, h1, g2⟩ := g1.cons_inv
  obtain ⟨x1, f1, o1⟩ := dat_i64 (by kernel_rfl) h1
  obtain ⟨a2, b2, e2, h2, g3⟩ := g2.cons_inv
  obtain ⟨x2, f2, o2⟩ := dat_i64 (by kernel_rfl) h2
  have e := g3.nil_inv
  subst e0 f0 e1 f1 e2 f2 e
  exact ⟨⟨x0, x1, x2⟩, rfl, o0, o1, o2⟩

def okL_c_api_Room (l : List api_Room) : Prop := l.length ≤ 9223372036854775807 ∧ ∀ x, x ∈ l → ok_api_Room x
theorem datL_c_api_Room {t : TypeId} (hu : Tryz.prog.underlying t = some (.slice 42)) {xs : List AV} (h : Dat Tryz.prog t xs) : ∃ x : List api_Room, xs = [.s (List.map c_api_Room x)] ∧ okL_c_api_Room x := by
  obtain ⟨rows, rfl, hl, hr⟩ := h.slice_inv hu
  obtain ⟨l, rfl, hok⟩ := rows_map (c := c_api_Room) (ok := ok_api_Room) fun r hr0 => dat_api_Room (by kernel_rfl) (hr r hr0)
  exact ⟨l, rfl, by rw [List.length_map] at hl; exact hl, hok⟩

def ok_api_Span (x : api_Span) : Prop := ok_i64 x.From ∧ ok_i64 x.To
theorem dat_api_Span {t : TypeId} (hu : (Tryz.prog.underlying t).map (fun d => match d with | .struct fs => some (fs.toList.map (·.type)) | _ => none) = some (some [3, 3])) {xs : List AV} (h : Dat Tryz.prog t xs) : ∃ x : api_Span, xs = c_api_Span x ∧ ok_api_Span x := by
  have g0 := h.fields hu
  obtain ⟨a0, b0, e0, h0, g1⟩ := g0.cons_inv
  obtain ⟨x0, f0, o0⟩ := dat_i64 (by kernel_rfl) h0
  obtain ⟨a1, b1, e1, h1, g2⟩ := g1.cons_inv
  obtain ⟨x1, f1, o1⟩ := dat_i64 (by kernel_rfl) h1
  have e := g2.nil_inv
  subst e0 f0 e1 f1 e
  exact ⟨⟨x0, x1⟩, rfl, o0, o1⟩

def ok_api_Lease (x : api_Lease) : Prop := ok_i64 x.Client ∧ ok_i64 x.Ino ∧ ok_i64 x.Kind ∧ ok_api_Span x.Span ∧ ok_i64 x.Until ∧ ok_i64 x.Epoch
theorem dat_api_Lease {t : TypeId} (hu : (Tryz.prog.underlying t).map (fun d => match d with | .struct fs => some (fs.toList.map (·.type)) | _ => none) = some (some [3, 3, 3, 44, 3, 3])) {xs : List AV} (h : Dat Tryz.prog t xs) : ∃ x : api_Lease, xs = c_api_Lease x ∧ ok_api_Lease x := by
  have g0 := h.fields hu
  obtain ⟨a0, b0, e0, h0, g1⟩ := g0.cons_inv
  obtain ⟨x0, f0, o0⟩ := dat_i64 (by kernel_rfl) h0
  obtain ⟨a1, b1, e1, h1, g2⟩ := g1.cons_inv
  obtain ⟨x1, f1, o1⟩ := dat_i64 (by kernel_rfl) h1
  obtain ⟨a2, b2, e2, h2, g3⟩ := g2.cons_inv
  obtain ⟨x2, f2, o2⟩ := dat_i64 (by kernel_rfl) h2
  obtain ⟨a3, b3, e3, h3, g4⟩ := g3.cons_inv
  obtain ⟨x3, f3, o3⟩ := dat_api_Span (by kernel_rfl) h3
  obtain ⟨a4, b4, e4, h4, g5⟩ := g4.cons_inv
  obtain ⟨x4, f4, o4⟩ := dat_i64 (by kernel_rfl) h4
  obtain ⟨a5, b5, e5, h5, g6⟩ := g5.cons_inv
  obtain ⟨x5, f5, o5⟩ := dat_i64 (by kernel_rfl) h5
  have e := g6.nil_inv
  subst e0 f0 e1 f1 e2 f2 e3 f3 e4 f4 e5 f5 e
  exact ⟨⟨x0, x1, x2, x3, x4, x5⟩, rfl, o0, o1, o2, o3, o4, o5⟩

def okL_c_api_Lease (l : List api_Lease) : Prop := l.length ≤ 9223372036854775807 ∧ ∀ x, x ∈ l → ok_api_Lease x
theorem datL_c_api_Lease {t : TypeId} (hu : Tryz.prog.underlying t = some (.slice 46)) {xs : List AV} (h : Dat Tryz.prog t xs) : ∃ x : List api_Lease, xs = [.s (List.map c_api_Lease x)] ∧ okL_c_api_Lease x := by
  obtain ⟨rows, rfl, hl, hr⟩ := h.slice_inv hu
  obtain ⟨l, rfl, hok⟩ := rows_map (c := c_api_Lease) (ok := ok_api_Lease) fun r hr0 => dat_api_Lease (by kernel_rfl) (hr r hr0)
  exact ⟨l, rfl, by rw [List.length_map] at hl; exact hl, hok⟩

def ok_u8 (_ : UInt8) : Prop := True
theorem dat_u8 {t : TypeId} (hu : Tryz.prog.underlying t = some (.int .u8)) {xs : List AV} (h : Dat Tryz.prog t xs) : ∃ x : UInt8, xs = cU8 x ∧ ok_u8 x := by
  obtain ⟨n, rfl, hn⟩ := h.int_inv hu
  exact ⟨toU8 n, congrArg (fun m => [AV.v (.int .u8 m)]) (wf_u8 hn), trivial⟩

def okL_cU8 (l : List UInt8) : Prop := l.length ≤ 9223372036854775807 ∧ ∀ x, x ∈ l → ok_u8 x
theorem datL_cU8 {t : TypeId} (hu : Tryz.prog.underlying t = some (.slice 5)) {xs : List AV} (h : Dat Tryz.prog t xs) : ∃ x : List UInt8, xs = [.s (List.map cU8 x)] ∧ okL_cU8 x := by
  obtain ⟨rows, rfl, hl, hr⟩ := h.slice_inv hu
  obtain ⟨l, rfl, hok⟩ := rows_map (c := cU8) (ok := ok_u8) fun r hr0 => dat_u8 (by kernel_rfl) (hr r hr0)
  exact ⟨l, rfl, by rw [List.length_map] at hl; exact hl, hok⟩

def ok_api_Page (x : api_Page) : Prop := ok_i64 x.At ∧ okL_cU8 x.Data
theorem dat_api_Page {t : TypeId} (hu : (Tryz.prog.underlying t).map (fun d => match d with | .struct fs => some (fs.toList.map (·.type)) | _ => none) = some (some [3, 48])) {xs : List AV} (h : Dat Tryz.prog t xs) : ∃ x : api_Page, xs = c_api_Page x ∧ ok_api_Page x := by
  have g0 := h.fields hu
  obtain ⟨a0, b0, e0, h0, g1⟩ := g0.cons_inv
  obtain ⟨x0, f0, o0⟩ := dat_i64 (by kernel_rfl) h0
  obtain ⟨a1, b1, e1, h1, g2⟩ := g1.cons_inv
  obtain ⟨x1, f1, o1⟩ := datL_cU8 (by kernel_rfl) h1
  have e := g2.nil_inv
  subst e0 f0 e1 f1 e
  exact ⟨⟨x0, x1⟩, rfl, o0, o1⟩

def okL_c_api_Page (l : List api_Page) : Prop := l.length ≤ 9223372036854775807 ∧ ∀ x, x ∈ l → ok_api_Page x
theorem datL_c_api_Page {t : TypeId} (hu : Tryz.prog.underlying t = some (.slice 120)) {xs : List AV} (h : Dat Tryz.prog t xs) : ∃ x : List api_Page, xs = [.s (List.map c_api_Page x)] ∧ okL_c_api_Page x := by
  obtain ⟨rows, rfl, hl, hr⟩ := h.slice_inv hu
  obtain ⟨l, rfl, hok⟩ := rows_map (c := c_api_Page) (ok := ok_api_Page) fun r hr0 => dat_api_Page (by kernel_rfl) (hr r hr0)
  exact ⟨l, rfl, by rw [List.length_map] at hl; exact hl, hok⟩

def ok_bool (_ : Bool) : Prop := True
theorem dat_bool {t : TypeId} (hu : Tryz.prog.underlying t = some .bool) {xs : List AV} (h : Dat Tryz.prog t xs) : ∃ x : Bool, xs = cB x ∧ ok_bool x := by
  obtain ⟨b, rfl⟩ := h.bool_inv hu
  exact ⟨b, rfl, trivial⟩

def ok_api_Disk (x : api_Disk) : Prop := okL_c_api_Page x.Synced ∧ okL_c_api_Page x.Loose ∧ ok_bool x.Down
theorem dat_api_Disk {t : TypeId} (hu : (Tryz.prog.underlying t).map (fun d => match d with | .struct fs => some (fs.toList.map (·.type)) | _ => none) = some (some [54, 54, 4])) {xs : List AV} (h : Dat Tryz.prog t xs) : ∃ x : api_Disk, xs = c_api_Disk x ∧ ok_api_Disk x := by
  have g0 := h.fields hu
  obtain ⟨a0, b0, e0, h0, g1⟩ := g0.cons_inv
  obtain ⟨x0, f0, o0⟩ := datL_c_api_Page (by kernel_rfl) h0
  obtain ⟨a1, b1, e1, h1, g2⟩ := g1.cons_inv
  obtain ⟨x1, f1, o1⟩ := datL_c_api_Page (by kernel_rfl) h1
  obtain ⟨a2, b2, e2, h2, g3⟩ := g2.cons_inv
  obtain ⟨x2, f2, o2⟩ := dat_bool (by kernel_rfl) h2
  have e := g3.nil_inv
  subst e0 f0 e1 f1 e2 f2 e
  exact ⟨⟨x0, x1, x2⟩, rfl, o0, o1, o2⟩

def okL_c_api_Disk (l : List api_Disk) : Prop := l.length ≤ 9223372036854775807 ∧ ∀ x, x ∈ l → ok_api_Disk x
theorem datL_c_api_Disk {t : TypeId} (hu : Tryz.prog.underlying t = some (.slice 56)) {xs : List AV} (h : Dat Tryz.prog t xs) : ∃ x : List api_Disk, xs = [.s (List.map c_api_Disk x)] ∧ okL_c_api_Disk x := by
  obtain ⟨rows, rfl, hl, hr⟩ := h.slice_inv hu
  obtain ⟨l, rfl, hok⟩ := rows_map (c := c_api_Disk) (ok := ok_api_Disk) fun r hr0 => dat_api_Disk (by kernel_rfl) (hr r hr0)
  exact ⟨l, rfl, by rw [List.length_map] at hl; exact hl, hok⟩

def ok_law29_Set (x : law29_Set) : Prop := okL_c_api_Named x.Named ∧ okL_c_api_Room x.Rooms ∧ okL_c_api_Lease x.Leases ∧ okL_c_api_Disk x.Disks
theorem dat_law29_Set {t : TypeId} (hu : (Tryz.prog.underlying t).map (fun d => match d with | .struct fs => some (fs.toList.map (·.type)) | _ => none) = some (some [22, 23, 24, 25])) {xs : List AV} (h : Dat Tryz.prog t xs) : ∃ x : law29_Set, xs = c_law29_Set x ∧ ok_law29_Set x := by
  have g0 := h.fields hu
  obtain ⟨a0, b0, e0, h0, g1⟩ := g0.cons_inv
  obtain ⟨x0, f0, o0⟩ := datL_c_api_Named (by kernel_rfl) h0
  obtain ⟨a1, b1, e1, h1, g2⟩ := g1.cons_inv
  obtain ⟨x1, f1, o1⟩ := datL_c_api_Room (by kernel_rfl) h1
  obtain ⟨a2, b2, e2, h2, g3⟩ := g2.cons_inv
  obtain ⟨x2, f2, o2⟩ := datL_c_api_Lease (by kernel_rfl) h2
  obtain ⟨a3, b3, e3, h3, g4⟩ := g3.cons_inv
  obtain ⟨x3, f3, o3⟩ := datL_c_api_Disk (by kernel_rfl) h3
  have e := g4.nil_inv
  subst e0 f0 e1 f1 e2 f2 e3 f3 e
  exact ⟨⟨x0, x1, x2, x3⟩, rfl, o0, o1, o2, o3⟩
end Go.Proofs
