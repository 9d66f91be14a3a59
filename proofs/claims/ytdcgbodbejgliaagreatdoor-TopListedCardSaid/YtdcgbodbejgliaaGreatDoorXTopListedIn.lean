/- What a law of this seat may be handed, typed. No condition. -/
import Derived.Test.YtdcgbodbejgliaaGreatDoorXTopListedEn
namespace Go.Proofs
set_option linter.all false
open Go Go.Cat
variable [M : bU]

def yw (n : Int) : Prop := Ψ n
theorem zX {t : TypeId} (hu : Tryz.prog.underlying t = some (.int .i64)) {xs : List AV} (h : ez Tryz.prog t xs) : ∃ x : Int, xs = Go.Cat.encI x ∧ yw x := by
  obtain ⟨n, rfl, hn⟩ := h.RU hu
  exact ⟨n, rfl, wf_i64 hn⟩

def KG (l : List UInt8) : Prop := l.length ≤ 9223372036854775807
theorem Ps {t : TypeId} (hu : Tryz.prog.underlying t = some .string) {xs : List AV} (h : ez Tryz.prog t xs) : ∃ x : List UInt8, xs = eA x ∧ KG x := by
  obtain ⟨l, rfl, hl⟩ := h.ad8 hu
  exact ⟨l, rfl, hl⟩

def Bf (_ : UInt8) : Prop := True
theorem Pt {t : TypeId} (hu : Tryz.prog.underlying t = some (.int .u8)) {xs : List AV} (h : ez Tryz.prog t xs) : ∃ x : UInt8, xs = du x ∧ Bf x := by
  obtain ⟨n, rfl, hn⟩ := h.RU hu
  exact ⟨lM n, congrArg (fun m => [AV.v (.int .u8 m)]) (wf_u8 hn), trivial⟩

def SG (l : List UInt8) : Prop := l.length ≤ 9223372036854775807 ∧ ∀ x, x ∈ l → Bf x
theorem Xi {t : TypeId} (hu : Tryz.prog.underlying t = some (.slice 5)) {xs : List AV} (h : ez Tryz.prog t xs) : ∃ x : List UInt8, xs = [.s (List.map du x)] ∧ SG x := by
  obtain ⟨rows, rfl, hl, hr⟩ := h.Uq hu
  obtain ⟨l, rfl, bK⟩ := LP (c := du) (ok := Bf) fun r cN => Pt (by kernel_rfl) (hr r cN)
  exact ⟨l, rfl, by rw [List.length_map] at hl; exact hl, bK⟩

def KF (x : dP) : Prop := yw x.Ω ∧ yw x.fZ ∧ KG x.ia ∧ KG x.To ∧ yw x.N ∧ yw x.M ∧ yw x.iO ∧ SG x.aP
theorem Xl {t : TypeId} (hu : (Tryz.prog.underlying t).map (fun d => match d with | .struct fs => some (fs.toList.map (·.type)) | _ => none) = some (some [3, 3, 9, 9, 3, 3, 3, 41])) {xs : List AV} (h : ez Tryz.prog t xs) : ∃ x : dP, xs = zR x ∧ KF x := by
  have g0 := h.fields hu
  obtain ⟨a0, b0, e0, h0, g1⟩ := g0.cons_inv
  obtain ⟨x0, f0, o0⟩ := zX (by kernel_rfl) h0
  obtain ⟨a1, b1, e1, h1, g2⟩ := g1.cons_inv
  obtain ⟨x1, f1, o1⟩ := zX (by kernel_rfl) h1
  obtain ⟨a2, b2, e2, h2, g3⟩ := g2.cons_inv
  obtain ⟨x2, f2, o2⟩ := Ps (by kernel_rfl) h2
  obtain ⟨a3, b3, e3, h3, g4⟩ := g3.cons_inv
  obtain ⟨x3, f3, o3⟩ := Ps (by kernel_rfl) h3
  obtain ⟨a4, b4, e4, h4, g5⟩ := g4.cons_inv
  obtain ⟨x4, f4, o4⟩ := zX (by kernel_rfl) h4
  obtain ⟨a5, b5, e5, h5, g6⟩ := g5.cons_inv
  obtain ⟨x5, f5, o5⟩ := zX (by kernel_rfl) h5
  obtain ⟨a6, b6, e6, h6, g7⟩ := g6.cons_inv
  obtain ⟨x6, f6, o6⟩ := zX (by kernel_rfl) h6
  obtain ⟨a7, b7, e7, h7, g8⟩ := g7.cons_inv
  obtain ⟨x7, f7, o7⟩ := Xi (by kernel_rfl) h7
  have e := g8.KC
  subst e0 f0 e1 f1 e2 f2 e3 f3 e4 f4 e5 f5 e6 f6 e7 f7 e
  exact ⟨⟨x0, x1, x2, x3, x4, x5, x6, x7⟩, rfl, o0, o1, o2, o3, o4, o5, o6, o7⟩

def EP (l : List dP) : Prop := l.length ≤ 9223372036854775807 ∧ ∀ x, x ∈ l → KF x
theorem Xj {t : TypeId} (hu : Tryz.prog.underlying t = some (.slice 51)) {xs : List AV} (h : ez Tryz.prog t xs) : ∃ x : List dP, xs = [.s (List.map zR x)] ∧ EP x := by
  obtain ⟨rows, rfl, hl, hr⟩ := h.Uq hu
  obtain ⟨l, rfl, bK⟩ := LP (c := zR) (ok := KF) fun r cN => Xl (by kernel_rfl) (hr r cN)
  exact ⟨l, rfl, by rw [List.length_map] at hl; exact hl, bK⟩
end Go.Proofs
