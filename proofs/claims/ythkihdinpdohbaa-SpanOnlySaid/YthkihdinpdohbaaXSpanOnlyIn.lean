/- What a law of this seat may be handed, typed. No condition. -/
import Derived.Test.YthkihdinpdohbaaXSpanOnlyEn
import Derived.Test.YthkihdinpdohbaaCatY
namespace Go.Proofs
set_option linter.all false
open Go Go.Cat

def ok_i64 (n : Int) : Prop := InI64 n
theorem dat_i64 {t : TypeId} (hu : Try.prog.underlying t = some (.int .i64)) {xs : List AV} (h : Dat Try.prog t xs) : ∃ x : Int, xs = Go.Cat.encI x ∧ ok_i64 x := by
  obtain ⟨n, rfl, hn⟩ := h.int_inv hu
  exact ⟨n, rfl, wf_i64 hn⟩

def ok_api_Span (x : api_Span) : Prop := ok_i64 x.From ∧ ok_i64 x.To
theorem dat_api_Span {t : TypeId} (hu : (Try.prog.underlying t).map (fun d => match d with | .struct fs => some (fs.toList.map (·.type)) | _ => none) = some (some [3, 3])) {xs : List AV} (h : Dat Try.prog t xs) : ∃ x : api_Span, xs = c_api_Span x ∧ ok_api_Span x := by
  have g0 := h.fields hu
  obtain ⟨a0, b0, e0, h0, g1⟩ := g0.cons_inv
  obtain ⟨x0, f0, o0⟩ := dat_i64 (by kernel_rfl) h0
  obtain ⟨a1, b1, e1, h1, g2⟩ := g1.cons_inv
  obtain ⟨x1, f1, o1⟩ := dat_i64 (by kernel_rfl) h1
  have e := g2.nil_inv
  subst e0 f0 e1 f1 e
  exact ⟨⟨x0, x1⟩, rfl, o0, o1⟩

def okL_c_api_Span (l : List api_Span) : Prop := l.length ≤ 9223372036854775807 ∧ ∀ x, x ∈ l → ok_api_Span x
theorem datL_c_api_Span {t : TypeId} (hu : Try.prog.underlying t = some (.slice 33)) {xs : List AV} (h : Dat Try.prog t xs) : ∃ x : List api_Span, xs = [.s (List.map c_api_Span x)] ∧ okL_c_api_Span x := by
  obtain ⟨rows, rfl, hl, hr⟩ := h.slice_inv hu
  obtain ⟨l, rfl, hok⟩ := rows_map (c := c_api_Span) (ok := ok_api_Span) fun r hr0 => dat_api_Span (by kernel_rfl) (hr r hr0)
  exact ⟨l, rfl, by rw [List.length_map] at hl; exact hl, hok⟩
end Go.Proofs
