/- Scrubbing, plain: the order of what is planned. No condition. -/
import Derived.Test.YtpohijpdclienaaGreatXScrubOrderP27p
namespace Go.Proofs
set_option linter.all false
open Go Go.Cat
set_option linter.all false
theorem mem_jobs {D : List api_Disk} {c : api_Chain} {j : api_Job} : j ∈ jobsN D c ↔ ∃ s, s ∈ c.Servers ∧ standsN D c s ≠ 0 ∧ standsN D c s ≠ 1 ∧ j = jobOf D c (findN D c s) := by
 unfold jobsN
 rw [List.mem_map]
 constructor
 ·rintro ⟨f, hf, rfl⟩
  obtain ⟨hf, hw⟩ := List.mem_filter.1 hf
  obtain ⟨s, h1, h2, rfl⟩ := mem_look.1 (sLook_mem.1 hf)
  exact ⟨s, h1, h2, by simpa [findN] using hw, rfl⟩
 ·rintro ⟨s, h1, h2, h3, rfl⟩
  exact ⟨_, List.mem_filter.2 ⟨sLook_mem.2 (mem_look.2 ⟨s, h1, h2, rfl⟩), by simpa [findN] using h3⟩, rfl⟩
theorem mem_plan {D : List api_Disk} {l : List api_Chain} {j : api_Job} : j ∈ planJ D l ↔ ∃ c, c ∈ l ∧ intactN D c ≠ [] ∧ j ∈ jobsN D c := by
 unfold planJ
 rw [List.mem_flatMap]
 constructor
 ·rintro ⟨c, hc, h⟩
  by_cases h0 : intactN D c = []
  ·rw [if_pos h0] at h; cases h
  ·rw [if_neg h0] at h; exact ⟨c, hc, h0, h⟩
 ·rintro ⟨c, hc, h0, h⟩
  exact ⟨c, hc, by rw [if_neg h0]; exact h⟩
theorem mem_lost {D : List api_Disk} {l : List api_Chain} {i : Int} : i ∈ planL D l ↔ ∃ c, c ∈ l ∧ intactN D c = [] ∧ c.Id = i := by
 unfold planL
 rw [List.mem_map]
 constructor
 ·rintro ⟨c, hc, rfl⟩
  obtain ⟨h1, h2⟩ := List.mem_filter.1 hc
  exact ⟨c, h1, by simpa using h2, rfl⟩
 ·rintro ⟨c, h1, h2, rfl⟩
  exact ⟨c, List.mem_filter.2 ⟨h1, by simp [h2]⟩, rfl⟩
theorem plan_sorted {D : List api_Disk} {l : List api_Chain} (hR : RightL l) : (planJ D l).Pairwise fun a b => a.Id < b.Id ∨ (a.Id = b.Id ∧ a.To < b.To) := by
 unfold planJ
 rw [List.pairwise_flatMap]
 refine ⟨fun c hc => ?_, ?_⟩
 ·split
  ·exact .nil
  ·unfold jobsN
   rw [List.pairwise_map]
   exact ((sLook_sorted (hR.mem hc).2.2.2.2).filter _).imp fun {a b} h => .inr ⟨rfl, h⟩
 ·have : l.Pairwise fun a b => a.Id < b.Id := by
   rw [List.pairwise_iff_getElem]
   intro i j hi hj hij
   exact hR.lt (j - i - 1) i _ _ (List.getElem?_eq_getElem hi) (by rw [show i + 1 + (j - i - 1) = j by omega]; exact List.getElem?_eq_getElem hj)
  refine this.imp fun {a b} h x hx y hy => .inl ?_
  have ex : x.Id = a.Id := by
   split at hx
   ·cases hx
   ·obtain ⟨s, _, _, _, rfl⟩ := mem_jobs.1 hx; rfl
  have ey : y.Id = b.Id := by
   split at hy
   ·cases hy
   ·obtain ⟨s, _, _, _, rfl⟩ := mem_jobs.1 hy; rfl
  omega
structure JobOk (D : List api_Disk) (c : api_Chain) (j : api_Job) : Prop where
 id : j.Id = c.Id
 ver : j.Ver = c.Ver
 to : j.To ∈ c.Servers
 from_ : j.From ∈ intactN D c
 not : j.To ∉ intactN D c
 have_ : j.Have = ((intactN D c).length : Int)
 left1 : 1 ≤ j.Left
 left2 : j.Left ≤ 65
theorem job_ok {D : List api_Disk} (hD : Small D) {c : api_Chain} (hc : ChainOk c) (hne : intactN D c ≠ []) {j : api_Job} (hj : j ∈ jobsN D c) : JobOk D c j := by
 obtain ⟨s, h1, h2, h3, rfl⟩ := mem_jobs.1 hj
 obtain ⟨hn1, hn2⟩ := p_next hc (intact_len hc) hne s
 have hi := mem_intact.1 hn2
 obtain ⟨d, hd, hd1, hd2, hd3⟩ := stands_intact.1 hi.2
 have hds := hD.2 d (List.mem_of_getElem? hd)
 have hgd : D.getD (fromN D c s).toNat d0 = d := by unfold fromN; rw [List.getD_eq_getElem?_getD, hd]; rfl
 have hm := ((getN_spec hds c.Id).2.2.1 hd2).1.2.2.1
 refine ⟨rfl, rfl, h1, hn2, fun h => h2 (mem_intact.1 h).2, rfl, ?_, ?_⟩
 ·show 1 ≤ ((getN (D.getD (fromN D c s).toNat d0) c.Id).1.Data.length : Int) + 1; omega
 ·show ((getN (D.getD (fromN D c s).toNat d0) c.Id).1.Data.length : Int) + 1 ≤ 65
  rw [hgd]; omega
theorem ite_some {α : Type} {p : Prop} [Decidable p] {a b : α} : (if p then some a else some b) = some (if p then a else b) := by split <;> rfl
theorem l_ScrubOrder (D : List api_Disk) (l : List api_Chain) : law27_ScrubOrder D l = some true := by
 refine Tot.eq ?_
 unfold law27_ScrubOrder
 refine Tot.bindeq p_head27 (Tot.bind (R := fun b => b = false → GreatD D ∧ l.length ≤ 12 ∧ RightL l) ?_ fun b hb => Tot.ite (fun _ => Tot.ret rfl) fun h => ?_)
 ·have := t_start D l
  rw [show (((law27_Great D l).bind fun x2 => (if x2 then some true else (ref27_Right l).bind fun x3 => some ((!x3))).bind fun c1 => some c1)) = ((law27_Great D l).bind fun x2 => (if x2 then some true else (ref27_Right l).bind fun x3 => some ((!x3)))) by simp only [Option.bind_fun_some]]
  exact this
 obtain ⟨hG, hl, hR⟩ := hb (by simpa using h)
 have hD := hG.small
 refine Tot.bindeq (p_Plan hD hl hR.oks) ?_
 have hjl : (planJ D l).length ≤ 100000 := by
  have : ∀ l' : List api_Chain, (∀ c, c ∈ l' → ChainOk c) → (planJ D l').length ≤ 12 * l'.length := by
   intro l'
   induction l' with
   | nil => intro _; simp [planJ]
   | cons c l' ih =>
    intro h
    have h1 := ih fun c hc => h c (List.mem_cons_of_mem _ hc)
    have h2 := jobs_len (D := D) (h c (List.mem_cons_self ..))
    unfold planJ at h1 ⊢
    rw [List.flatMap_cons, List.length_append, List.length_cons]
    have h3 : (if intactN D c = [] then [] else jobsN D c).length ≤ 12 := by
     split
     ·simp
     ·exact h2
    omega
  have := this l hR.oks; omega
 have hll : (planL D l).length ≤ 12 := by
  unfold planL; rw [List.length_map]; exact Nat.le_trans (List.length_filter_le _ _) hl
 unfold law27_ScrubOrder_L1
 refine Tot.each0 (l := planJ D l) (fun _ => True) (fun n j hlt hj _ => ?_) (fun _ => ?_) trivial
 ·obtain ⟨c, hc, hne, hjc⟩ := mem_plan.1 (List.mem_of_getElem? hj)
  have hok := job_ok hD (hR.oks c hc) hne hjc
  unfold law27_ScrubOrder_B1
  refine Tot.cond (by simp; omega) (Tot.bindeq (idx_some hj) (Tot.bindeq (a := false) ?_ (Tot.ncond (by simp) (Tot.bind (R := (· = true)) ?_ fun b hb => ?_))))
  ·rw [p_in _ _ (by dsimp only; omega), Option.bind_some]
   have hnl : j.Id ∉ planL D l := fun h => by
    obtain ⟨c', h1, h2, h3⟩ := mem_lost.1 h
    have := hR.uniqId h1 hc (by rw [h3, hok.id])
    subst this; exact hne h2
   rw [if_neg (by simpa using hnl)]
   cases n with
   | zero => rfl
   | succ m =>
    have hm : m < (planJ D l).length := by omega
    have hp : (planJ D l)[m]? = some (planJ D l)[m] := List.getElem?_eq_getElem hm
    obtain ⟨hjh, hje⟩ := List.getElem?_eq_some_iff.1 hj
    have hlt2 := List.pairwise_iff_getElem.1 (plan_sorted (D := D) hR) m (m + 1) hm hjh (by omega)
    rw [hje] at hlt2
    generalize (planJ D l)[m] = a at hp hlt2
    have hi : idx (planJ D l) (((m + 1 : Nat) : Int) - 1) = some a := by
     rw [show ((m + 1 : Nat) : Int) - 1 = (m : Int) by omega]; exact idx_some hp
    have hd1 : decide (((m + 1 : Nat) : Int) > 0) = true := by simp
    rw [if_pos hd1]
    have hI : InI64 (((m + 1 : Nat) : Int) - 1) := by unfold InI64; omega
    simp only [chk_pos hI]
    simp only [hi, Option.bind_some]
    rw [if_neg (by simp; omega)]
    by_cases e : a.Id = j.Id
    ·rw [if_pos (by simp [e])]
     have : a.To < j.To := by rcases hlt2 with h | h <;> omega
     simp; omega
    ·rw [if_neg (by simp [e])]; rfl
  ·obtain ⟨k, hk⟩ := memR hc
   unfold law27_ScrubOrder_L2
   have hkl := idx_len hk
   refine Tot.each' (l := l) (fun n a => k < n → a = true) (fun n x a hlt hx ha => ?_) (fun a ha => ?_) false (fun h => by omega)
   ·unfold law27_ScrubOrder_B2
    have hxo := hR.oks x (List.mem_of_getElem? hx)
    have hxs := hxo.n
    have hxi := intact_len (D := D) hxo
    refine Tot.cond (by simp; omega) (Tot.bind (R := fun v => k < n + 1 → v = true) (Tot.bindeq (idx_some hx) (Tot.bindeq (p_Intact hD hxo) ?_)) fun v hv => Tot.chk (by unfold InI64; dsimp only; omega) (Tot.inl ⟨rfl, hv⟩))
    simp only [idx_some hx, Option.bind_some, p_in _ _ (show x.Servers.length ≤ 100000 by omega), p_in _ _ (show (intactN D x).length ≤ 100000 by omega), ite_some]
    refine Tot.ret fun hkn => ?_
    rcases Nat.lt_or_ge k n with h1 | h1
    ·rw [ha h1]; rfl
    ·obtain rfl : k = n := by omega
     rw [hk] at hx; cases hx
     have b1 := hok.id; have b2 := hok.ver; have b3 := hok.to; have b4 := hok.from_; have b5 := hok.not; have b6 := hok.have_; have b7 := hok.left1; have b8 := hok.left2
     simp [b1, b2, b3, b4, b5, b6, b8]
     right; omega
   ·unfold law27_ScrubOrder_B2
    exact Tot.ncond (by simp) (Tot.out (Tot.ret (ha hkl)))
  ·subst hb
   unfold law27_ScrubOrder_J2
   exact Tot.ncond (by simp) (Tot.chk (by unfold InI64; omega) (Tot.inl ⟨rfl, trivial⟩))
 ·unfold law27_ScrubOrder_B1
  refine Tot.ncond (by simp) (Tot.out ?_)
  unfold law27_ScrubOrder_J1 law27_ScrubOrder_L3
  refine Tot.each0 (l := l) (fun _ => True) (fun n c hlt hc _ => ?_) (fun _ => ?_) trivial
  ·unfold law27_ScrubOrder_B3
   have hco := hR.oks c (List.mem_of_getElem? hc)
   refine Tot.cond (by simp; omega) (Tot.bindeq (idx_some hc) (Tot.bindeq (p_in _ _ (by dsimp only; omega)) (Tot.bindeq (idx_some hc) (Tot.bindeq (p_Intact hD hco) (Tot.ncond ?_ (Tot.chk (by unfold InI64; omega) (Tot.inl ⟨rfl, trivial⟩)))))))
   have : c.Id ∈ planL D l ↔ intactN D c = [] := by
    rw [mem_lost]
    constructor
    ·rintro ⟨c', h1, h2, h3⟩
     have := hR.uniqId h1 (List.mem_of_getElem? hc) h3
     subst this; exact h2
    ·exact fun h => ⟨c, List.mem_of_getElem? hc, h, rfl⟩
   simp [this]
   cases intactN D c with
   | nil => simp
   | cons y ys => simp; omega
  ·unfold law27_ScrubOrder_B3 law27_ScrubOrder_J3
   exact Tot.ncond (by simp) (Tot.out (Tot.ret rfl))
end Go.Proofs
