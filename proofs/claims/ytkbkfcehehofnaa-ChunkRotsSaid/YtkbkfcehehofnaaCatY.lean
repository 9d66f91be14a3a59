/- Plain data handed in, typed: what the trees of a law's arguments are. No condition. -/
import Derived.Test.YtkbkfcehehofnaaCatS
import Derived.Test.YtkbkfcehehofnaaCatX
namespace Go.Cat
set_option linter.all false
open Go.RowKit
variable [M : Mono]

section
variable {P : Program}

theorem Dat.int_inv {t : TypeId} {k : IntKind} {xs : List AV} (h : Dat P t xs) (hu : P.underlying t = some (.int k)) : ∃ n, xs = [.v (.int k n)] ∧ (Lit.int k n).wf = true := by
  cases h with
  | int h hn => rw [hu] at h; cases h; exact ⟨_, rfl, hn⟩
  | bool h => rw [hu] at h; cases h
  | str h => rw [hu] at h; cases h
  | slice h => rw [hu] at h; cases h
  | struct h => rw [hu] at h; cases h

theorem Dat.bool_inv {t : TypeId} {xs : List AV} (h : Dat P t xs) (hu : P.underlying t = some .bool) : ∃ b, xs = [.v (.bool b)] := by
  cases h with
  | bool h => exact ⟨_, rfl⟩
  | int h => rw [hu] at h; cases h
  | str h => rw [hu] at h; cases h
  | slice h => rw [hu] at h; cases h
  | struct h => rw [hu] at h; cases h

theorem Dat.str_inv {t : TypeId} {xs : List AV} (h : Dat P t xs) (hu : P.underlying t = some .string) : ∃ l : List UInt8, xs = [vs l] ∧ l.length ≤ maxLen := by
  cases h with
  | str h hs =>
    rename_i s
    obtain ⟨⟨l⟩⟩ := s
    exact ⟨l, rfl, by simpa [ByteArray.size] using hs⟩
  | bool h => rw [hu] at h; cases h
  | int h => rw [hu] at h; cases h
  | slice h => rw [hu] at h; cases h
  | struct h => rw [hu] at h; cases h

theorem Dat.slice_inv {t e : TypeId} {xs : List AV} (h : Dat P t xs) (hu : P.underlying t = some (.slice e)) : ∃ rows, xs = [.s rows] ∧ rows.length ≤ maxLen ∧ ∀ r, r ∈ rows → Dat P e r := by
  cases h with
  | slice h hl hk hr => rw [hu] at h; cases h; exact ⟨_, rfl, hl, hr⟩
  | bool h => rw [hu] at h; cases h
  | int h => rw [hu] at h; cases h
  | str h => rw [hu] at h; cases h
  | struct h => rw [hu] at h; cases h

theorem Dat.struct_inv {t : TypeId} {fs : Array Field} {xs : List AV} (h : Dat P t xs) (hu : P.underlying t = some (.struct fs)) : DatF P (fs.toList.map (·.type)) xs := by
  cases h with
  | struct h hf => rw [hu] at h; cases h; exact hf
  | bool h => rw [hu] at h; cases h
  | int h => rw [hu] at h; cases h
  | str h => rw [hu] at h; cases h
  | slice h => rw [hu] at h; cases h

theorem Dat.fields {t : TypeId} {ts : List TypeId} {xs : List AV} (h : Dat P t xs) (hu : (P.underlying t).map (fun d => match d with | .struct fs => some (fs.toList.map (·.type)) | _ => none) = some (some ts)) : DatF P ts xs := by
  cases hd : P.underlying t with
  | none => rw [hd] at hu; cases hu
  | some d =>
    rw [hd] at hu
    cases d <;> first | cases hu; done | skip
    rename_i fs
    simp only [Option.map_some, Option.some.injEq] at hu
    rw [← hu]
    exact h.struct_inv hd

theorem DatF.cons_inv {t : TypeId} {ts : List TypeId} {xs : List AV} (h : DatF P (t :: ts) xs) : ∃ a b, xs = a ++ b ∧ Dat P t a ∧ DatF P ts b := by
  cases h with
  | cons h hs => exact ⟨_, _, rfl, h, hs⟩
theorem DatF.nil_inv {xs : List AV} (h : DatF P [] xs) : xs = [] := by cases h; rfl
theorem DatL.cons_inv {t : TypeId} {ts : List TypeId} {xs : List AV} (h : DatL P (t :: ts) xs) : ∃ x ys, xs = x :: ys ∧ DatV P t x ∧ DatL P ts ys := by
  cases h with
  | cons h hs => exact ⟨_, _, rfl, h, hs⟩
theorem DatL.nil_inv {xs : List AV} (h : DatL P [] xs) : xs = [] := by cases h; rfl

theorem DatV.one {t : TypeId} {x : AV} (h : DatV P t x) (hu : (match P.underlying t with | some (.struct _) => false | some _ => true | none => false) = true) : Dat P t [x] := by
  unfold DatV at h
  cases hd : P.underlying t with
  | none => rw [hd] at hu; cases hu
  | some d =>
    rw [hd] at hu h
    cases d <;> first | (cases hu; done) | exact h

theorem DatV.agg {t : TypeId} {x : AV} (h : DatV P t x) (hu : (match P.underlying t with | some (.struct _) => true | _ => false) = true) : ∃ cs, x = .a cs ∧ Dat P t cs := by
  unfold DatV at h
  cases hd : P.underlying t with
  | none => rw [hd] at hu; cases hu
  | some d =>
    rw [hd] at hu h
    cases d <;> first | (cases hu; done) | exact h

theorem rows_map {α : Type} {c : α → List AV} {ok : α → Prop} : ∀ {rows : List (List AV)}, (∀ r, r ∈ rows → ∃ x, r = c x ∧ ok x) → ∃ l : List α, rows = List.map c l ∧ ∀ x, x ∈ l → ok x
  | [], _ => ⟨[], rfl, fun x hx => by cases hx⟩
  | r :: rs, h => by
    obtain ⟨x, rfl, hx⟩ := h r (by simp)
    obtain ⟨l, rfl, hl⟩ := rows_map (rows := rs) fun r hr => h r (by simp [hr])
    exact ⟨x :: l, rfl, fun y hy => (List.mem_cons.1 hy).elim (fun e => e ▸ hx) (hl y)⟩

theorem wf_i64 {n : Int} (h : (Lit.int .i64 n).wf = true) : InI64 n := by
  have : IntKind.i64.min ≤ n ∧ n ≤ IntKind.i64.max := by simpa [Lit.wf] using h
  exact this
theorem wf_u8 {n : Int} (h : (Lit.int .u8 n).wf = true) : n = ((toU8 n).toNat : Int) := by
  have h0 : IntKind.u8.min ≤ n ∧ n ≤ IntKind.u8.max := by simpa [Lit.wf] using h
  have h1 : (0 : Int) ≤ n ∧ n ≤ 255 := h0
  rw [toU8_toNat]; omega
theorem wf_u16 {n : Int} (h : (Lit.int .u16 n).wf = true) : 0 ≤ n ∧ n ≤ 65535 := by
  have h0 : IntKind.u16.min ≤ n ∧ n ≤ IntKind.u16.max := by simpa [Lit.wf] using h
  exact h0
theorem wf_u32 {n : Int} (h : (Lit.int .u32 n).wf = true) : 0 ≤ n ∧ n ≤ 4294967295 := by
  have h0 : IntKind.u32.min ≤ n ∧ n ≤ IntKind.u32.max := by simpa [Lit.wf] using h
  exact h0
theorem wf_u64 {n : Int} (h : (Lit.int .u64 n).wf = true) : 0 ≤ n ∧ n ≤ 18446744073709551615 := by
  have h0 : IntKind.u64.min ≤ n ∧ n ≤ IntKind.u64.max := by simpa [Lit.wf] using h
  exact h0
end
end Go.Cat
