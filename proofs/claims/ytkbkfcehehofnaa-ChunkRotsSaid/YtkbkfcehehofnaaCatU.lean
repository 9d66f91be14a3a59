/- Comparison of structs whose fields are all of one cell. No condition. -/
import Derived.Test.YtkbkfcehehofnaaCatB
import Derived.Laws.StructEq
namespace Go.Cat
set_option linter.all false
open Go.RowKit
variable [M : Mono]

/-- The kinds of fields of one cell that can be compared. -/
inductive CK where
  | int (k : IntKind) | bool | str

def ckFits (P : Program) (t : TypeId) (k : CK) : Bool :=
  match P.underlying t, k with
  | some (.int q), .int k => q == k
  | some .bool, .bool => true
  | some .string, .str => true
  | _, _ => false

def eqFs (P : Program) : Nat → List Field → List CK → Bool
  | _, [], [] => true
  | o, f :: fs, k :: ks => f.name != "_" && (Nat.beq f.offset o && (ckFits P f.type k && eqFs P (o + 1) fs ks))
  | _, _, _ => false

/-- A struct's type whose fields all are of one cell, of these kinds. -/
def eqTy (P : Program) (t : TypeId) (ks : List CK) : Bool :=
  (match P.underlying t with | some (.struct _) => true | _ => false) && (!P.stoodInHeld t && (!P.eqGuardType P.depth t && eqFs P 0 (P.fieldsOf t).toList ks))

def fitK : List CK → List AV → List AV → Bool
  | [], [], [] => true
  | .int k :: ks, .v (.int k1 _) :: r, .v (.int k2 _) :: r' => k1 == k && (k2 == k && fitK ks r r')
  | .bool :: ks, .v (.bool _) :: r, .v (.bool _) :: r' => fitK ks r r'
  | .str :: ks, .v (.string _) :: r, .v (.string _) :: r' => fitK ks r r'
  | _, _, _ => false

def eqCells : List AV → List AV → Bool
  | .v (.int _ a) :: r, .v (.int _ b) :: r' => a == b && eqCells r r'
  | .v (.bool a) :: r, .v (.bool b) :: r' => a == b && eqCells r r'
  | .v (.string a) :: r, .v (.string b) :: r' => a.toList == b.toList && eqCells r r'
  | _, _ => true

theorem beqKind {a b : IntKind} (h : (a == b) = true) : a = b := by
  cases a <;> cases b <;> first | rfl | exact absurd h (by decide)

theorem run_part1 {P : Program} {w : World} {t : TypeId} {k : CK} {us : Array Value} {o : Nat} {v : Value} (hk : ckFits P t k = true) (h : us[o]? = some v) : (part t us o).run P w = .ok v w := by
  unfold ckFits at hk
  split at hk
  · rename_i hu; simp [part, isAgg, run_underlying hu, h]
  · rename_i hu; simp [part, isAgg, run_underlying hu, h]
  · rename_i hu; simp [part, isAgg, run_underlying hu, h]
  · cases hk

theorem run_eqFields {P : Program} {w : World} {us vs : Array Value} {d : Nat} : ∀ (fs : List Field) (ks : List CK) (xs ys : List AV) (o : Nat), eqFs P o fs ks = true → fitK ks xs ys = true →
    (∀ i x, xs[i]? = some (.v x) → us[o + i]? = some x) → (∀ i x, ys[i]? = some (.v x) → vs[o + i]? = some x) → (Op.eqFields (d + 1) us vs fs).run P w = .ok (eqCells xs ys) w
  | [], [], [], [], _, _, _, _, _ => by simp [Op.eqFields, eqCells]
  | f :: fs, k :: ks, xs, ys, o, hf, hk, hx, hy => by
    simp only [eqFs, Bool.and_eq_true, bne_iff_ne] at hf
    obtain ⟨hname, hoff, hck, hrest⟩ := hf
    have hoff : f.offset = o := Nat.eq_of_beq_eq_true hoff
    have hu : ∃ td, P.underlying f.type = some td := by
      unfold ckFits at hck
      cases h : P.underlying f.type with
      | none => rw [h] at hck; cases hck
      | some td => exact ⟨td, rfl⟩
    have go : ∀ {x y : Value} {r r' : List AV} {b : Bool}, xs = .v x :: r → ys = .v y :: r' → fitK ks r r' = true → (Op.equalIn (d + 1) f.type x y).run P w = .ok b w → eqCells xs ys = (b && eqCells r r') → (Op.eqFields (d + 1) us vs (f :: fs)).run P w = .ok (eqCells xs ys) w := by
      intro x y r r' b ex ey hfit he hb
      subst ex; subst ey
      have h1 := run_part1 (w := w) hck (hx 0 x rfl)
      have h2 := run_part1 (w := w) hck (hy 0 y rfl)
      rw [Nat.add_zero] at h1 h2
      have ih := run_eqFields (P := P) (w := w) (us := us) (vs := vs) (d := d) fs ks r r' (o + 1) hrest hfit (fun i x h => by have := hx (i + 1) x (by simpa using h); rwa [show o + 1 + i = o + (i + 1) by omega]) (fun i x h => by have := hy (i + 1) x (by simpa using h); rwa [show o + 1 + i = o + (i + 1) by omega])
      rw [hb]
      simp only [Op.eqFields, if_pos hname, Sem.run_bind, hoff, h1, h2, he, Result.andThen_ok, Sem.run_ite]
      cases b
      · simp
      · simp [ih]
    unfold fitK at hk
    split at hk
    · rename_i e; cases e
    · rename_i e
      cases e
      simp only [Bool.and_eq_true] at hk
      have e2' := beqKind hk.1; have e3' := beqKind hk.2.1
      subst e2'; subst e3'
      unfold ckFits at hck
      split at hck
      · rename_i hu' e; cases e
        exact go rfl rfl hk.2.2 (run_equalIn_int w d f.type _ _ _ _ hu') rfl
      · rename_i e; cases e
      · rename_i e; cases e
      · cases hck
    · rename_i e
      cases e
      unfold ckFits at hck
      split at hck
      · rename_i e; cases e
      · rename_i hu' e
        exact go rfl rfl hk (run_equalIn_bool' w d f.type _ _ hu') rfl
      · rename_i e; cases e
      · cases hck
    · rename_i e
      cases e
      unfold ckFits at hck
      split at hck
      · rename_i e; cases e
      · rename_i e; cases e
      · rename_i hu' e
        exact go rfl rfl hk (run_equalIn_string w d f.type _ _ hu') rfl
      · cases hck
    · cases hk
  | [], _ :: _, _, _, _, h, _, _, _ => by simp [eqFs] at h
  | _ :: _, [], _, _, _, h, _, _, _ => by simp [eqFs] at h
  | [], [], _ :: _, _, _, _, h, _, _ => by simp [fitK] at h
  | [], [], [], _ :: _, _, _, h, _, _ => by simp [fitK] at h
end Go.Cat
