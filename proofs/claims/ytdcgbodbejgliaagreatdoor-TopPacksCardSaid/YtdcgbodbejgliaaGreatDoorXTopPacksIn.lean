/- What a law of this seat may be handed, typed. No condition. -/
import Derived.Test.YtdcgbodbejgliaaGreatDoorXTopPacksEn
namespace Go.Proofs
set_option linter.all false
open Go Go.Cat
variable [M : cM]

def BS (n : Int) : Prop := Ξ n
theorem DA {t : TypeId} (hu : Tryz.prog.underlying t = some (.int .i64)) {xs : List AV} (h : eY Tryz.prog t xs) : ∃ x : Int, xs = Go.Cat.encI x ∧ BS x := by
  obtain ⟨n, rfl, hn⟩ := h.VO hu
  exact ⟨n, rfl, wf_i64 hn⟩

def O8 (l : List UInt8) : Prop := l.length ≤ 9223372036854775807
theorem SS {t : TypeId} (hu : Tryz.prog.underlying t = some .string) {xs : List AV} (h : eY Tryz.prog t xs) : ∃ x : List UInt8, xs = kL x ∧ O8 x := by
  obtain ⟨l, rfl, hl⟩ := h.ait hu
  exact ⟨l, rfl, hl⟩

def O9 (_ : UInt8) : Prop := True
theorem aa6 {t : TypeId} (hu : Tryz.prog.underlying t = some (.int .u8)) {xs : List AV} (h : eY Tryz.prog t xs) : ∃ x : UInt8, xs = dD x ∧ O9 x := by
  obtain ⟨n, rfl, hn⟩ := h.VO hu
  exact ⟨lx n, congrArg (fun m => [AV.v (.int .u8 m)]) (wf_u8 hn), trivial⟩

def Wo (l : List UInt8) : Prop := l.length ≤ 9223372036854775807 ∧ ∀ x, x ∈ l → O9 x
theorem aa2 {t : TypeId} (hu : Tryz.prog.underlying t = some (.slice 5)) {xs : List AV} (h : eY Tryz.prog t xs) : ∃ x : List UInt8, xs = [.s (List.map dD x)] ∧ Wo x := by
  obtain ⟨rows, rfl, hl, hr⟩ := h.XZ hu
  obtain ⟨l, rfl, bU⟩ := Py (c := dD) (ok := O9) fun r de => aa6 (by kernel_rfl) (hr r de)
  exact ⟨l, rfl, by rw [List.length_map] at hl; exact hl, bU⟩

def O7 (x : bN) : Prop := BS x.τ ∧ BS x.aW ∧ O8 x.cF ∧ O8 x.To ∧ BS x.N ∧ BS x.M ∧ BS x.bY ∧ Wo x.az
theorem aa5 {t : TypeId} (hu : (Tryz.prog.underlying t).map (fun d => match d with | .struct fs => some (fs.toList.map (·.type)) | _ => none) = some (some [3, 3, 9, 9, 3, 3, 3, 41])) {xs : List AV} (h : eY Tryz.prog t xs) : ∃ x : bN, xs = Du x ∧ O7 x := by
  have g0 := h.fields hu
  obtain ⟨a0, b0, e0, h0, g1⟩ := g0.cons_inv
  obtain ⟨x0, f0, o0⟩ := DA (by kernel_rfl) h0
  obtain ⟨a1, b1, e1, h1, g2⟩ := g1.cons_inv
  obtain ⟨x1, f1, o1⟩ := DA (by kernel_rfl) h1
  obtain ⟨a2, b2, e2, h2, g3⟩ := g2.cons_inv
  obtain ⟨x2, f2, o2⟩ := SS (by kernel_rfl) h2
  obtain ⟨a3, b3, e3, h3, g4⟩ := g3.cons_inv
  obtain ⟨x3, f3, o3⟩ := SS (by kernel_rfl) h3
  obtain ⟨a4, b4, e4, h4, g5⟩ := g4.cons_inv
  obtain ⟨x4, f4, o4⟩ := DA (by kernel_rfl) h4
  obtain ⟨a5, b5, e5, h5, g6⟩ := g5.cons_inv
  obtain ⟨x5, f5, o5⟩ := DA (by kernel_rfl) h5
  obtain ⟨a6, b6, e6, h6, g7⟩ := g6.cons_inv
  obtain ⟨x6, f6, o6⟩ := DA (by kernel_rfl) h6
  obtain ⟨a7, b7, e7, h7, g8⟩ := g7.cons_inv
  obtain ⟨x7, f7, o7⟩ := aa2 (by kernel_rfl) h7
  have e := g8.O2
  subst e0 f0 e1 f1 e2 f2 e3 f3 e4 f4 e5 f5 e6 f6 e7 f7 e
  exact ⟨⟨x0, x1, x2, x3, x4, x5, x6, x7⟩, rfl, o0, o1, o2, o3, o4, o5, o6, o7⟩

def JB (l : List bN) : Prop := l.length ≤ 9223372036854775807 ∧ ∀ x, x ∈ l → O7 x
theorem aa3 {t : TypeId} (hu : Tryz.prog.underlying t = some (.slice 51)) {xs : List AV} (h : eY Tryz.prog t xs) : ∃ x : List bN, xs = [.s (List.map Du x)] ∧ JB x := by
  obtain ⟨rows, rfl, hl, hr⟩ := h.XZ hu
  obtain ⟨l, rfl, bU⟩ := Py (c := Du) (ok := O7) fun r de => aa5 (by kernel_rfl) (hr r de)
  exact ⟨l, rfl, by rw [List.length_map] at hl; exact hl, bU⟩
end Go.Proofs
