/- What a law of this seat may be handed, typed. No condition. -/
import Derived.Test.YtpohijpdclienabGreatXScrubRotEn
import Derived.Test.YtpohijpdclienabGreatXScrubRotCatP5
namespace Go.Proofs
set_option linter.all false
open Go Go.Cat
variable [M : Mono]

def ok_u8 (_ : UInt8) : Prop := True
theorem dat_u8 {t : TypeId} (hu : Tryz.prog.underlying t = some (.int .u8)) {xs : List AV} (h : Dat Tryz.prog t xs) : ∃ x : UInt8, xs = cU8 x ∧ ok_u8 x := by
  obtain ⟨n, rfl, hn⟩ := h.int_inv hu
  exact ⟨toU8 n, congrArg (fun m => [AV.v (.int .u8 m)]) (wf_u8 hn), trivial⟩

def ok_u16 (n : Int) : Prop := 0 ≤ n ∧ n ≤ 65535
theorem dat_u16 {t : TypeId} (hu : Tryz.prog.underlying t = some (.int .u16)) {xs : List AV} (h : Dat Tryz.prog t xs) : ∃ x : Int, xs = c_u16 x ∧ ok_u16 x := by
  obtain ⟨n, rfl, hn⟩ := h.int_inv hu
  exact ⟨n, rfl, wf_u16 hn⟩

def okL_cU8 (l : List UInt8) : Prop := l.length ≤ 9223372036854775807 ∧ ∀ x, x ∈ l → ok_u8 x
theorem datL_cU8 {t : TypeId} (hu : Tryz.prog.underlying t = some (.slice 5)) {xs : List AV} (h : Dat Tryz.prog t xs) : ∃ x : List UInt8, xs = [.s (List.map cU8 x)] ∧ okL_cU8 x := by
  obtain ⟨rows, rfl, hl, hr⟩ := h.slice_inv hu
  obtain ⟨l, rfl, hok⟩ := rows_map (c := cU8) (ok := ok_u8) fun r hr0 => dat_u8 (by kernel_rfl) (hr r hr0)
  exact ⟨l, rfl, by rw [List.length_map] at hl; exact hl, hok⟩
end Go.Proofs
