/- Scrubbing, plain: what a copy and a cleaning do. No condition. -/
import Derived.Test.YtpohijpdclienabGreatXScrubRotP270n
namespace Go.Proofs
set_option linter.all false
open Go Go.Cat
set_option linter.all false
theorem uniq_asc {l : List api_Page} : uniq l ↔ Asc l := by
 unfold uniq Asc
 rw [List.pairwise_iff_getElem]
 constructor
 ·intro h i j hi hj hij
  exact h i j hij _ _ (List.getElem?_eq_getElem hi) (List.getElem?_eq_getElem hj)
 ·intro h i j hij p q hp hq
  obtain ⟨hi, rfl⟩ := List.getElem?_eq_some_iff.1 hp
  obtain ⟨hj, rfl⟩ := List.getElem?_eq_some_iff.1 hq
  exact h i j hi hj hij
structure Fit (d : api_Disk) (n : Nat) : Prop where
 t : d.Synced.length + d.Loose.length ≤ n
 x : ∀ p, p ∈ d.Synced ++ d.Loose → p.Data.length ≤ 200 ∧ InI64 p.At
 a : Asc d.Synced
theorem Fit.ok {d : api_Disk} {n : Nat} (h : Fit d n) : OkD d n := ⟨by have := h.t; omega, by have := h.t; omega, fun p hp => ⟨by have := (h.x p hp).1; omega, (h.x p hp).2⟩⟩
theorem Fit.small {d : api_Disk} {n : Nat} (h : Fit d n) (hn : n ≤ 500) : smallD d := (h.ok.mono hn).small
theorem Fit.uniq {d : api_Disk} {n : Nat} (h : Fit d n) : uniq d.Synced := uniq_asc.2 h.a
theorem Fit.mono {d : api_Disk} {n m : Nat} (h : Fit d n) (e : n ≤ m) : Fit d m := ⟨Nat.le_trans h.t e, h.x, h.a⟩
structure FitL (D : List api_Disk) (n : Nat) : Prop where
 len : D.length ≤ 6
 d : ∀ d, d ∈ D → Fit d n
theorem FitL.small {D : List api_Disk} {n : Nat} (h : FitL D n) (hn : n ≤ 500) : Small D := ⟨h.len, fun d hd => (h.d d hd).small hn⟩
theorem FitL.mono {D : List api_Disk} {n m : Nat} (h : FitL D n) (e : n ≤ m) : FitL D m := ⟨h.len, fun d hd => (h.d d hd).mono e⟩
def syncD (d : api_Disk) : api_Disk := ⟨laidN d.Synced d.Loose, [], false⟩
theorem Fit.sync {d : api_Disk} {n : Nat} (h : Fit d n) : Fit (syncD d) n := ⟨by
 have := laid_len d.Synced d.Loose; have := h.t
 show (laidN d.Synced d.Loose).length + 0 ≤ n; omega, fun p hp => laid_all h.x p (by simpa [syncD] using hp), laid_asc _ _⟩
theorem write_fit {d : api_Disk} {n : Nat} {a : Int} {x : List UInt8} (h : Fit d n) (hz : (writeN d a x).2 = 0) : (writeN d a x).1 = ⟨d.Synced, d.Loose ++ [⟨a, x⟩], false⟩ ∧ d.Down = false ∧ mayN a x.length ∧ Fit (writeN d a x).1 (n + 1) := by
 unfold writeN at hz ⊢
 by_cases h1 : d.Down = true
 ·rw [if_pos h1] at hz; cases hz
 ·rw [if_neg h1] at hz ⊢
  by_cases h2 : mayN a x.length
  ·rw [if_pos h2]
   have hd : d.Down = false := by simpa using h1
   refine ⟨by rw [hd], hd, h2, ?_, ?_, h.a⟩
   ·have := h.t; simp only [List.length_append, List.length_cons, List.length_nil]; omega
   ·intro p hp
    simp only [List.mem_append, List.mem_singleton] at hp
    rcases hp with hp | hp | rfl
    ·exact h.x p (List.mem_append_left _ hp)
    ·exact h.x p (List.mem_append_right _ hp)
    ·unfold mayN at h2; exact ⟨by dsimp only; omega, by unfold InI64; dsimp only; omega⟩
  ·rw [if_neg h2] at hz; cases hz
noncomputable def turnN (D : List api_Disk) (s : Int) (r : api_Disk × Int) : List api_Disk × Int := if r.2 = 0 then (D.set s.toNat (syncD r.1), 0) else (D, r.2)
def isS (D : List api_Disk) (s : Int) : Prop := 0 ≤ s ∧ s < (D.length : Int)
noncomputable def atS (D : List api_Disk) (s : Int) : api_Disk := D.getD s.toNat d0'
 where d0' : api_Disk := ⟨[], [], false⟩
theorem at_get {D : List api_Disk} {s : Int} (h : isS D s) : D[s.toNat]? = some (atS D s) := by
 unfold atS; rw [List.getD_eq_getElem?_getD]
 obtain ⟨h1, h2⟩ := h
 rw [List.getElem?_eq_getElem (by omega)]; rfl
theorem at_idx {D : List api_Disk} {s : Int} (h : isS D s) : idx D s = some (atS D s) := by
 unfold idx; rw [if_pos h.1, at_get h]
theorem at_mem {D : List api_Disk} {s : Int} (h : isS D s) : atS D s ∈ D := List.mem_of_getElem? (at_get h)
theorem at_of {D : List api_Disk} {s : Int} {d : api_Disk} (h0 : 0 ≤ s) (h : D[s.toNat]? = some d) : isS D s ∧ atS D s = d := by
 have hi : isS D s := ⟨h0, by have := (List.getElem?_eq_some_iff.1 h).1; omega⟩
 exact ⟨hi, Option.some.inj ((at_get hi).symm.trans h)⟩
theorem p_turn {D : List api_Disk} {s : Int} (hn : D.length ≤ 6) (hs : isS D s) {r : api_Disk × Int} (hr : r.2 = 0 → r.1.Down = false ∧ OkD r.1 500) :
  ((if (r.2 == 0) = true then (disk_Sync (⟨r.1.Synced, r.1.Loose, r.1.Down⟩ : api_Disk)).bind fun x4 => some ((x4.2, x4.1.Synced, x4.1.Loose, x4.1.Down)) else some ((r.2, r.1.Synced, r.1.Loose, r.1.Down))).bind fun v1 => if (v1.1 != 0) = true then some ((D, v1.1)) else (slices_Clone_api_Disk_api_Disk D).bind fun x5 => (idx x5 s).bind fun _ => some (((x5.set s.toNat (⟨v1.2.1, v1.2.2.1, v1.2.2.2⟩ : api_Disk)), 0))) = some (turnN D s r) := by
 refine Tot.eq ?_
 unfold turnN
 by_cases h : r.2 = 0
 ·rw [if_pos h, if_pos (by simpa using h)]
  obtain ⟨h1, h2⟩ := hr h
  obtain ⟨⟨S, L, b⟩, e⟩ := r
  dsimp only at h1 h2 h ⊢
  subst h1
  refine Tot.bindeq (a := (0, laidN S L, [], false)) (by rw [p_SyncD h2]; rfl) (Tot.ncond (by simp) (Tot.bindeq (eq_slices_Clone_api_Disk_api_Disk D (by omega)) (Tot.bindeq (at_idx hs) (Tot.ret rfl))))
 ·rw [if_neg h, if_neg (by simpa using h)]
  exact Tot.bindeq rfl (Tot.cond (by simpa using h) (Tot.ret rfl))
noncomputable def copyN (D : List api_Disk) (j : api_Job) : List api_Disk × Int :=
 open Classical in if isS D j.From ∧ isS D j.To then
  (if (getN (atS D j.From) j.Id).2 ≠ 0 then (D, (getN (atS D j.From) j.Id).2) else if (getN (atS D j.From) j.Id).1.Ver ≠ j.Ver then (D, 250) else turnN D j.To (putN (atS D j.To) (getN (atS D j.From) j.Id).1))
 else (D, 1)
noncomputable def cleanN (D : List api_Disk) (f : api_Find) : List api_Disk × Int :=
 open Classical in if isS D f.Server then turnN D f.Server (loseN (atS D f.Server) f.Id) else (D, 1)
theorem put_fit {d : api_Disk} {n : Nat} {c : api_Copy} (h : Fit d n) (hz : (putN d c).2 = 0) : mayP c ∧ putN d c = writeN d c.Id (pageN c) ∧ (putN d c).1.Down = false ∧ Fit (putN d c).1 (n + 1) := by
 unfold putN at hz ⊢
 by_cases hm : mayP c
 ·rw [if_pos hm] at hz ⊢
  obtain ⟨h1, h2, h3, h4⟩ := write_fit h hz
  exact ⟨hm, rfl, by rw [h1], h4⟩
 ·rw [if_neg hm] at hz; cases hz
theorem p_sthere (D : List api_Disk) (s : Int) : Tot (scrub_there D s) (Tells (isS D s)) := Tot.bind (Tot.bind (Tot.andI (by simp) fun _ => Tot.dec Iff.rfl) fun _ h => Tot.ret h) fun _ h => Tot.ret h
theorem p_Copy {D : List api_Disk} {n : Nat} (hD : FitL D n) (hn : n ≤ 400) (j : api_Job) : scrub_Copy D j = some (copyN D j) := by
 refine Tot.eq ?_
 unfold scrub_Copy copyN
 refine Tot.bind (R := fun b => b = true ↔ ¬ (isS D j.From ∧ isS D j.To)) (Tot.bind (p_sthere D j.From) fun b hb => Tot.bind (R := fun b => b = true ↔ ¬ (isS D j.From ∧ isS D j.To)) (Tot.ite (fun h => Tot.ret ⟨fun _ hh => by have := hb.2 hh.1; rw [this] at h; simp at h, fun _ => rfl⟩) fun h => Tot.bind (p_sthere D j.To) fun b' hb' => Tot.ret ?_) fun b' hb' => Tot.ret hb') fun b hb => Tot.ite (fun h => ?_) fun h => ?_
 ·have hf : isS D j.From := hb.1 (by simpa using h)
  unfold Tells at hb'
  cases b' <;> simp at hb' ⊢ <;> simp [hf, hb']
 ·rw [if_neg (hb.1 h)]; exact Tot.ret rfl
 have hh : isS D j.From ∧ isS D j.To := Classical.byContradiction fun e => h (hb.2 e)
 rw [if_pos hh]
 obtain ⟨h1, h2⟩ := hh
 have f1 := hD.d _ (at_mem h1)
 have f2 := hD.d _ (at_mem h2)
 have hs1 := f1.small (by omega)
 refine Tot.bindeq (at_idx h1) (Tot.bindeq (p_GetN hs1 j.Id) (Tot.ite (fun h => ?_) fun h => ?_))
 ·rw [if_pos (show (getN (atS D j.From) j.Id).2 ≠ 0 by simpa using h)]; exact Tot.ret rfl
 rw [if_neg (show ¬ (getN (atS D j.From) j.Id).2 ≠ 0 by simpa using h)]
 refine Tot.ite (fun h => ?_) fun h => ?_
 ·rw [if_pos (show (getN (atS D j.From) j.Id).1.Ver ≠ j.Ver by simpa using h)]; exact Tot.ret rfl
 rw [if_neg (show ¬ (getN (atS D j.From) j.Id).1.Ver ≠ j.Ver by simpa using h)]
 have hsz := (getN_spec hs1 j.Id).2.1
 refine Tot.bindeq (a := turnN D j.To (putN (atS D j.To) (getN (atS D j.From) j.Id).1)) ?_ (Tot.ret rfl)
 unfold scrub_turn__scrub_Copy_1_2 scrub_Copy_1_3
 rw [at_idx h2, Option.bind_some, p_Put _ _ (f2.small (by omega)) (by omega), Option.bind_some, Option.bind_some]
 refine p_turn hD.len h2 fun hz => ?_
 obtain ⟨_, _, h5, h6⟩ := put_fit f2 hz
 exact ⟨h5, h6.ok.mono (by omega)⟩
end Go.Proofs
