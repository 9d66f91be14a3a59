/- What a law of this seat may be handed, typed. No condition. -/
import Derived.Test.YtdcgbodbejgliaaGreatDoorXTopUnseenEn
import Derived.Test.YtdcgbodbejgliaaGreatDoorXTopUnseenCatP5
namespace Go.Proofs
set_option linter.all false
open Go Go.Cat
variable [M : bK]

def BN (n : Int) : Prop := Θ n
theorem Dt {t : TypeId} (hu : Tryz.prog.underlying t = some (.int .i64)) {xs : List AV} (h : eU Tryz.prog t xs) : ∃ x : Int, xs = Go.Cat.encI x ∧ BN x := by
  obtain ⟨n, rfl, hn⟩ := h.Vd hu
  exact ⟨n, rfl, wf_i64 hn⟩

def E7 (l : List UInt8) : Prop := l.length ≤ 9223372036854775807
theorem LL {t : TypeId} (hu : Tryz.prog.underlying t = some .string) {xs : List AV} (h : eU Tryz.prog t xs) : ∃ x : List UInt8, xs = mJ x ∧ E7 x := by
  obtain ⟨l, rfl, hl⟩ := h.ahQ hu
  exact ⟨l, rfl, hl⟩

def E8 (_ : UInt8) : Prop := True
theorem Sb {t : TypeId} (hu : Tryz.prog.underlying t = some (.int .u8)) {xs : List AV} (h : eU Tryz.prog t xs) : ∃ x : UInt8, xs = dZ x ∧ E8 x := by
  obtain ⟨n, rfl, hn⟩ := h.Vd hu
  exact ⟨k_ n, congrArg (fun m => [AV.v (.int .u8 m)]) (wf_u8 hn), trivial⟩

def VN (l : List UInt8) : Prop := l.length ≤ 9223372036854775807 ∧ ∀ x, x ∈ l → E8 x
theorem aai {t : TypeId} (hu : Tryz.prog.underlying t = some (.slice 5)) {xs : List AV} (h : eU Tryz.prog t xs) : ∃ x : List UInt8, xs = [.s (List.map dZ x)] ∧ VN x := by
  obtain ⟨rows, rfl, hl, hr⟩ := h.Xh hu
  obtain ⟨l, rfl, bW⟩ := O2 (c := dZ) (ok := E8) fun r c_ => Sb (by kernel_rfl) (hr r c_)
  exact ⟨l, rfl, by rw [List.length_map] at hl; exact hl, bW⟩

def OA (x : bN) : Prop := BN x.τ ∧ BN x.aV ∧ E7 x.cA ∧ E7 x.To ∧ BN x.N ∧ BN x.M ∧ BN x.cd ∧ VN x.aC
theorem aal {t : TypeId} (hu : (Tryz.prog.underlying t).map (fun d => match d with | .struct fs => some (fs.toList.map (·.type)) | _ => none) = some (some [3, 3, 9, 9, 3, 3, 3, 41])) {xs : List AV} (h : eU Tryz.prog t xs) : ∃ x : bN, xs = Dm x ∧ OA x := by
  have g0 := h.fields hu
  obtain ⟨a0, b0, e0, h0, g1⟩ := g0.cons_inv
  obtain ⟨x0, f0, o0⟩ := Dt (by kernel_rfl) h0
  obtain ⟨a1, b1, e1, h1, g2⟩ := g1.cons_inv
  obtain ⟨x1, f1, o1⟩ := Dt (by kernel_rfl) h1
  obtain ⟨a2, b2, e2, h2, g3⟩ := g2.cons_inv
  obtain ⟨x2, f2, o2⟩ := LL (by kernel_rfl) h2
  obtain ⟨a3, b3, e3, h3, g4⟩ := g3.cons_inv
  obtain ⟨x3, f3, o3⟩ := LL (by kernel_rfl) h3
  obtain ⟨a4, b4, e4, h4, g5⟩ := g4.cons_inv
  obtain ⟨x4, f4, o4⟩ := Dt (by kernel_rfl) h4
  obtain ⟨a5, b5, e5, h5, g6⟩ := g5.cons_inv
  obtain ⟨x5, f5, o5⟩ := Dt (by kernel_rfl) h5
  obtain ⟨a6, b6, e6, h6, g7⟩ := g6.cons_inv
  obtain ⟨x6, f6, o6⟩ := Dt (by kernel_rfl) h6
  obtain ⟨a7, b7, e7, h7, g8⟩ := g7.cons_inv
  obtain ⟨x7, f7, o7⟩ := aai (by kernel_rfl) h7
  have e := g8.Ou
  subst e0 f0 e1 f1 e2 f2 e3 f3 e4 f4 e5 f5 e6 f6 e7 f7 e
  exact ⟨⟨x0, x1, x2, x3, x4, x5, x6, x7⟩, rfl, o0, o1, o2, o3, o4, o5, o6, o7⟩

def Jf (l : List bN) : Prop := l.length ≤ 9223372036854775807 ∧ ∀ x, x ∈ l → OA x
theorem aaj {t : TypeId} (hu : Tryz.prog.underlying t = some (.slice 51)) {xs : List AV} (h : eU Tryz.prog t xs) : ∃ x : List bN, xs = [.s (List.map Dm x)] ∧ Jf x := by
  obtain ⟨rows, rfl, hl, hr⟩ := h.Xh hu
  obtain ⟨l, rfl, bW⟩ := O2 (c := Dm) (ok := OA) fun r c_ => aal (by kernel_rfl) (hr r c_)
  exact ⟨l, rfl, by rw [List.length_map] at hl; exact hl, bW⟩
end Go.Proofs
