/- Scrubbing, plain: what a copy and a cleaning do. No condition. -/
import Derived.Test.YtpohijpdclienaaGreatXScrubTellsP27n
namespace Go.Proofs
set_option linter.all false
open Go Go.Cat
set_option linter.all false
theorem uniq_asc {l : List api_Page} : uniq l ↔ Asc l := by
 unfold uniq Asc
 rw [List.pairwise_iff_getElem]
 constructor
 ·intro h i j hi hj hij
  exact h i j hij _ _ (List.getElem?_eq_getElem hi) (List.getElem?_eq_getElem hj)
 ·intro h i j hij p q hp hq
  obtain ⟨hi, rfl⟩ := List.getElem?_eq_some_iff.1 hp
  obtain ⟨hj, rfl⟩ := List.getElem?_eq_some_iff.1 hq
  exact h i j hi hj hij
structure Fit (d : api_Disk) (n : Nat) : Prop where
 t : d.Synced.length + d.Loose.length ≤ n
 x : ∀ p, p ∈ d.Synced ++ d.Loose → p.Data.length ≤ 200 ∧ InI64 p.At
 a : Asc d.Synced
theorem Fit.ok {d : api_Disk} {n : Nat} (h : Fit d n) : OkD d n := ⟨by have := h.t; omega, by have := h.t; omega, fun p hp => ⟨by have := (h.x p hp).1; omega, (h.x p hp).2⟩⟩
theorem Fit.small {d : api_Disk} {n : Nat} (h : Fit d n) (hn : n ≤ 500) : smallD d := (h.ok.mono hn).small
theorem Fit.uniq {d : api_Disk} {n : Nat} (h : Fit d n) : uniq d.Synced := uniq_asc.2 h.a
theorem Fit.mono {d : api_Disk} {n m : Nat} (h : Fit d n) (e : n ≤ m) : Fit d m := ⟨Nat.le_trans h.t e, h.x, h.a⟩
structure FitL (D : List api_Disk) (n : Nat) : Prop where
 len : D.length ≤ 6
 d : ∀ d, d ∈ D → Fit d n
theorem FitL.small {D : List api_Disk} {n : Nat} (h : FitL D n) (hn : n ≤ 500) : Small D := ⟨h.len, fun d hd => (h.d d hd).small hn⟩
theorem FitL.mono {D : List api_Disk} {n m : Nat} (h : FitL D n) (e : n ≤ m) : FitL D m := ⟨h.len, fun d hd => (h.d d hd).mono e⟩
theorem fit_of {D : List api_Disk} (h : GreatD D) (hk : okL_c_api_Disk D) : FitL D 120 := ⟨h.1, fun d hd => by
 obtain ⟨hm, hu⟩ := h.2 d hd
 have ho := okD_of hm (hk.2 d hd)
 exact ⟨by have := ho.s; have := ho.l; omega, fun p hp => ⟨hm.2.2 p hp, (ho.x p hp).2⟩, uniq_asc.1 hu⟩⟩
def syncD (d : api_Disk) : api_Disk := ⟨laidN d.Synced d.Loose, [], false⟩
theorem Fit.sync {d : api_Disk} {n : Nat} (h : Fit d n) : Fit (syncD d) n := ⟨by
 have := laid_len d.Synced d.Loose; have := h.t
 show (laidN d.Synced d.Loose).length + 0 ≤ n; omega, fun p hp => laid_all h.x p (by simpa [syncD] using hp), laid_asc _ _⟩
noncomputable def turnN (D : List api_Disk) (s : Int) (r : api_Disk × Int) : List api_Disk × Int := if r.2 = 0 then (D.set s.toNat (syncD r.1), 0) else (D, r.2)
def isS (D : List api_Disk) (s : Int) : Prop := 0 ≤ s ∧ s < (D.length : Int)
noncomputable def atS (D : List api_Disk) (s : Int) : api_Disk := D.getD s.toNat d0'
 where d0' : api_Disk := ⟨[], [], false⟩
theorem at_get {D : List api_Disk} {s : Int} (h : isS D s) : D[s.toNat]? = some (atS D s) := by
 unfold atS; rw [List.getD_eq_getElem?_getD]
 obtain ⟨h1, h2⟩ := h
 rw [List.getElem?_eq_getElem (by omega)]; rfl
theorem at_mem {D : List api_Disk} {s : Int} (h : isS D s) : atS D s ∈ D := List.mem_of_getElem? (at_get h)
theorem at_of {D : List api_Disk} {s : Int} {d : api_Disk} (h0 : 0 ≤ s) (h : D[s.toNat]? = some d) : isS D s ∧ atS D s = d := by
 have hi : isS D s := ⟨h0, by have := (List.getElem?_eq_some_iff.1 h).1; omega⟩
 exact ⟨hi, Option.some.inj ((at_get hi).symm.trans h)⟩
noncomputable def copyN (D : List api_Disk) (j : api_Job) : List api_Disk × Int :=
 open Classical in if isS D j.From ∧ isS D j.To then
  (if (getN (atS D j.From) j.Id).2 ≠ 0 then (D, (getN (atS D j.From) j.Id).2) else if (getN (atS D j.From) j.Id).1.Ver ≠ j.Ver then (D, 250) else turnN D j.To (putN (atS D j.To) (getN (atS D j.From) j.Id).1))
 else (D, 1)
noncomputable def cleanN (D : List api_Disk) (f : api_Find) : List api_Disk × Int :=
 open Classical in if isS D f.Server then turnN D f.Server (loseN (atS D f.Server) f.Id) else (D, 1)
end Go.Proofs
