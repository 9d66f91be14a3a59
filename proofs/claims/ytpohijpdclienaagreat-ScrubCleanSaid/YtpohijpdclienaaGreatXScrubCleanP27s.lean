/- Scrubbing, plain: what stands on a disk behind a cleaning and behind a copy; strays. No condition. -/
import Derived.Test.YtpohijpdclienaaGreatXScrubCleanP27r
import Derived.Test.YtpohijpdclienaaGreatXScrubCleanP27o
namespace Go.Proofs
set_option linter.all false
open Go Go.Cat
set_option linter.all false
theorem laid_had {S L : List api_Page} {p q : api_Page} (hq : q ∈ S ++ L) (h : q.At = p.At) : (laidN S (L ++ [p])).length ≤ S.length + L.length := by
 unfold laidN keysI
 rw [List.length_map, List.length_mergeSort]
 have hb : byM [] (S ++ (L ++ [p])) = mset p.At p (byM [] (S ++ L)) := by
  rw [← List.append_assoc]; unfold byM; rw [List.foldl_append]; rfl
 have hs : ∃ v, lastAt (S ++ L) p.At = some v := by
  have : (lastAt (S ++ L) p.At).isSome := by
   unfold lastAt
   rw [List.find?_isSome]
   exact ⟨q, List.mem_reverse.2 hq, by simpa using h⟩
  exact Option.isSome_iff_exists.1 this
 obtain ⟨v, hv⟩ := hs
 have hk : p.At ∈ (byM [] (S ++ L)).map (·.1) := mget_mem (v := v) (by rw [mget_by0]; exact hv)
 rw [hb, mset_keys _ _ _ hk, List.length_map]
 have := by_len (S ++ L) []
 simpa using this
theorem there_page {d : api_Disk} {i : Int} (h : (thereN d i).2 = 0) : d.Down = false ∧ withinP i ∧ ∃ q, q ∈ d.Synced ++ d.Loose ∧ q.At = i ∧ q.Data = (thereN d i).1 := by
 unfold thereN at h ⊢
 by_cases hw : withinP i
 ·rw [if_pos hw] at h ⊢
  by_cases hz : (readN d i).2 = 0 ∧ (readN d i).1 = []
  ·rw [if_pos hz] at h; cases h
  ·rw [if_neg hz] at h ⊢
   unfold readN at h ⊢
   by_cases hd : d.Down = true
   ·rw [if_pos hd] at h; cases h
   ·rw [if_neg hd] at h ⊢
    have hm : mayN i 0 := by unfold mayN; unfold withinP at hw; omega
    rw [if_pos hm] at h ⊢
    refine ⟨by simpa using hd, hw, ?_⟩
    cases hf : (d.Synced ++ d.Loose).reverse.find? (fun p => p.At == i) with
    | none => rw [hf] at h; cases h
    | some p => exact ⟨p, List.mem_reverse.1 (List.mem_of_find?_eq_some hf), by simpa using List.find?_some hf, rfl⟩
 ·rw [if_neg hw] at h; cases h
theorem there_set {S L : List api_Page} {i : Int} {x : List UInt8} (hw : withinP i) (o : Int) : thereN (syncD ⟨S, L ++ [⟨i, x⟩], false⟩) o = if o = i then (if x = [] then ([], 41) else (x, 0)) else thereN ⟨S, L, false⟩ o := by
 have e := there_laid S (L ++ [⟨i, x⟩]) o
 refine Eq.trans e ?_
 by_cases ho : o = i
 ·subst ho
  have hm : mayN o 0 := by unfold mayN; unfold withinP at hw; omega
  unfold thereN
  rw [if_pos hw, if_pos rfl, read_add_same (by simp) hm]
  by_cases hx : x = []
  ·rw [if_pos ⟨rfl, hx⟩, if_pos hx]
  ·rw [if_neg (fun h => hx h.2), if_neg hx]
 ·rw [if_neg ho, there_other ho]
theorem Fit.put {S L : List api_Page} {n : Nat} {i : Int} {x : List UInt8} {b : Bool} (h : Fit ⟨S, L, b⟩ n) (hi : InI64 i) (hx : x.length ≤ 200) : Fit (syncD ⟨S, L ++ [⟨i, x⟩], false⟩) (n + 1) := by
 refine Fit.sync ⟨?_, fun p hp => ?_, h.a⟩
 ·have := h.t; simp only [List.length_append, List.length_cons, List.length_nil] at *; omega
 ·simp only [List.mem_append, List.mem_singleton] at hp
  rcases hp with hp | hp | rfl
  ·exact h.x p (List.mem_append_left _ hp)
  ·exact h.x p (List.mem_append_right _ hp)
  ·exact ⟨hx, hi⟩
theorem within_i64 {i : Int} (h : withinP i) : InI64 i := by unfold withinP at h; unfold InI64; omega
theorem clean_view {d : api_Disk} {n : Nat} {i : Int} (hf : Fit d n) (h : (thereN d i).2 = 0) :
  (loseN d i).2 = 0 ∧ Fit (syncD (loseN d i).1) n ∧ ∀ o, thereN (syncD (loseN d i).1) o = if o = i then ([], 41) else thereN d o := by
 obtain ⟨hd, hw, q, hq, hqi, _⟩ := there_page h
 obtain ⟨S, L, b⟩ := d
 dsimp only at hd; subst hd
 have hm : mayN i 0 := by unfold mayN; unfold withinP at hw; omega
 have e : loseN ⟨S, L, false⟩ i = (⟨S, L ++ [⟨i, []⟩], false⟩, 0) := by
  unfold loseN; rw [if_pos h]; unfold writeN; rw [if_neg (by simp), if_pos (show mayN i ([] : List UInt8).length from hm)]
 rw [e]
 refine ⟨rfl, ?_, fun o => ?_⟩
 ·have h1 := hf.put (x := []) (within_i64 hw) (by simp)
  refine ⟨?_, h1.x, h1.a⟩
  have h8 : (laidN S (L ++ [⟨i, []⟩])).length ≤ S.length + L.length := laid_had hq hqi
  have h9 : S.length + L.length ≤ n := hf.t
  show (laidN S (L ++ [⟨i, []⟩])).length + 0 ≤ n; omega
 ·rw [there_set hw o, if_pos rfl]
def strayB (l : List api_Chain) (s i : Int) : Bool := !(l.any fun c => c.Id == i && decide (s ∈ c.Servers))
def strayS (l : List api_Chain) (s : Int) (d : api_Disk) : List api_Find := ((hasN d).filter (strayB l s)).map fun i => ⟨i, s, 6⟩
def straysN (D : List api_Disk) (l : List api_Chain) (n : Nat) : List api_Find := (List.range n).flatMap fun (s : Nat) => strayS l (s : Int) (D.getD s ⟨[], [], false⟩)
theorem mem_strayS {l : List api_Chain} {s : Int} {d : api_Disk} {f : api_Find} : f ∈ strayS l s d ↔ f.Id ∈ hasN d ∧ strayB l s f.Id = true ∧ f.Server = s ∧ f.What = 6 := by
 unfold strayS
 rw [List.mem_map]
 constructor
 ·rintro ⟨i, hi, rfl⟩
  obtain ⟨h1, h2⟩ := List.mem_filter.1 hi
  exact ⟨h1, h2, rfl, rfl⟩
 ·obtain ⟨i, s', w⟩ := f
  rintro ⟨h1, h2, h3, h4⟩
  dsimp only at *; subst h3 h4
  exact ⟨i, List.mem_filter.2 ⟨h1, h2⟩, rfl⟩
theorem mem_strays {D : List api_Disk} {l : List api_Chain} {f : api_Find} : f ∈ straysN D l D.length ↔ ∃ (s : Nat) (d : api_Disk), D[s]? = some d ∧ f.Server = (s : Int) ∧ f.Id ∈ hasN d ∧ strayB l s f.Id = true ∧ f.What = 6 := by
 unfold straysN
 rw [List.mem_flatMap]
 constructor
 ·rintro ⟨s, hs, hf⟩
  have hs := List.mem_range.1 hs
  rw [List.getD_eq_getElem?_getD, List.getElem?_eq_getElem hs] at hf
  obtain ⟨h1, h2, h3, h4⟩ := mem_strayS.1 hf
  exact ⟨s, _, List.getElem?_eq_getElem hs, h3, h1, h2, h4⟩
 ·rintro ⟨s, d, hd, h3, h1, h2, h4⟩
  refine ⟨s, List.mem_range.2 (List.getElem?_eq_some_iff.1 hd).1, ?_⟩
  rw [List.getD_eq_getElem?_getD, hd]
  exact mem_strayS.2 ⟨h1, h2, h3, h4⟩
theorem strays_len (D : List api_Disk) (l : List api_Chain) : ∀ n, (straysN D l n).length ≤ 200 * n
 | 0 => by simp [straysN]
 | n + 1 => by
  have ih := strays_len D l n
  unfold straysN at *
  rw [List.range_succ, List.flatMap_append, List.length_append]
  have : (strayS l (n : Int) (D.getD n ⟨[], [], false⟩)).length ≤ 200 := by
   unfold strayS; rw [List.length_map]; exact Nat.le_trans (List.length_filter_le _ _) (hasN_len _)
  simp only [List.flatMap_cons, List.flatMap_nil, List.append_nil]
  omega
theorem strays_pair (D : List api_Disk) (l : List api_Chain) (n : Nat) : (straysN D l n).Pairwise fun a b => a.Server ≠ b.Server ∨ a.Id ≠ b.Id := by
 unfold straysN
 rw [List.pairwise_flatMap]
 refine ⟨fun s _ => ?_, ?_⟩
 ·unfold strayS
  rw [List.pairwise_map]
  exact ((hasN_sorted _).filter _).imp fun {a b} h => .inr (by dsimp only; omega)
 ·refine (List.pairwise_lt_range (n := n)).imp fun {a b} h x hx y hy => .inl ?_
  have h1 := (mem_strayS.1 hx).2.2.1
  have h2 := (mem_strayS.1 hy).2.2.1
  omega
theorem p_Contains (l : List Int) (x : Int) (h : l.length ≤ 100000) : slices_Contains_int_int l x = some (decide (x ∈ l)) := by
 refine Tot.eq ?_
 unfold slices_Contains_int_int
 refine Tot.bind (R := fun r => 0 ≤ r ↔ x ∈ l) ?_ fun r hr => Tot.ret (by rw [decide_eq_decide]; exact hr)
 unfold slices_Index_int_int slices_Index_int_int_L1
 refine Tot.each0 (l := l) (fun n => x ∉ l.take n) (fun n y hlt hy hi => ?_) (fun hi => ?_) (by simp)
 ·unfold slices_Index_int_int_B1
  refine Tot.cond (by simp; omega) (Tot.bindeq (idx_some hy) (Tot.ite (fun h => Tot.out (Tot.ret ⟨fun _ => ?_, fun _ => by omega⟩)) fun h => Tot.chk (by unfold InI64; omega) (Tot.inl ⟨rfl, ?_⟩)))
  ·have : x = y := by simpa using h
   rw [this]; exact List.mem_of_getElem? hy
  ·rw [take_snoc hy]
   simp only [List.mem_append, List.mem_singleton, not_or]
   exact ⟨hi, by simpa using h⟩
 ·unfold slices_Index_int_int_B1 slices_Index_int_int_J1
  rw [List.take_length] at hi
  exact Tot.ncond (by simp) (Tot.out (Tot.ret ⟨fun h => by omega, fun h => (hi h).elim⟩))
theorem p_ContainsF {l : List api_Chain} (hl : l.length ≤ 12) (hc : ∀ c, c ∈ l → ChainOk c) (i s : Int) : slices_ContainsFunc_api_Chain_api_Chain__scrub_Strays_1 l i s = some (!strayB l s i) := by
 refine Tot.eq ?_
 unfold slices_ContainsFunc_api_Chain_api_Chain__scrub_Strays_1
 refine Tot.bind (R := fun r => 0 ≤ r ↔ ∃ c, c ∈ l ∧ c.Id = i ∧ s ∈ c.Servers) ?_ fun r hr => Tot.ret ?_
 ·unfold slices_IndexFunc_api_Chain_api_Chain__scrub_Strays_1 slices_IndexFunc_api_Chain_api_Chain__scrub_Strays_1_L1
  refine Tot.each0 (l := l) (fun n => ∀ c, c ∈ l.take n → ¬ (c.Id = i ∧ s ∈ c.Servers)) (fun n y hlt hy hi => ?_) (fun hi => ?_) (by simp)
  ·unfold slices_IndexFunc_api_Chain_api_Chain__scrub_Strays_1_B1
   have hyo := (hc y (List.mem_of_getElem? hy)).n
   refine Tot.cond (by simp; omega) (Tot.bindeq (idx_some hy) (Tot.bind (R := Tells (y.Id = i ∧ s ∈ y.Servers)) ?_ fun b hb => Tot.ite (fun h => Tot.out (Tot.ret ⟨fun _ => ?_, fun _ => by omega⟩)) fun h => Tot.chk (by unfold InI64; omega) (Tot.inl ⟨rfl, ?_⟩)))
   ·unfold scrub_Strays_1
    refine Tot.bind (Tot.bind (Tot.andI (by simp) fun _ => Tot.bindeq (p_Contains y.Servers s (by omega)) (Tot.dec Iff.rfl)) fun _ h => Tot.ret h) fun _ h => Tot.ret h
   ·exact ⟨y, List.mem_of_getElem? hy, hb.1 h⟩
   ·intro c hcm
    rw [take_snoc hy] at hcm
    rcases List.mem_append.1 hcm with hcm | hcm
    ·exact hi c hcm
    ·rw [List.mem_singleton.1 hcm]; exact fun e => h (hb.2 e)
  ·unfold slices_IndexFunc_api_Chain_api_Chain__scrub_Strays_1_B1 slices_IndexFunc_api_Chain_api_Chain__scrub_Strays_1_J1
   rw [List.take_length] at hi
   exact Tot.ncond (by simp) (Tot.out (Tot.ret ⟨fun h => by omega, fun ⟨c, h1, h2⟩ => (hi c h1 h2).elim⟩))
 ·unfold strayB
  rw [Bool.not_not, Bool.eq_iff_iff, decide_eq_true_iff, List.any_eq_true]
  show r ≥ 0 ↔ _
  rw [ge_iff_le, hr]
  constructor
  ·rintro ⟨c, h1, h2, h3⟩; exact ⟨c, h1, by simp [h2, h3]⟩
  ·rintro ⟨c, h1, h2⟩; simp at h2; exact ⟨c, h1, h2⟩
theorem p_Strays {D : List api_Disk} (hD : Small D) {l : List api_Chain} (hl : l.length ≤ 12) (hc : ∀ c, c ∈ l → ChainOk c) : scrub_Strays D l = some (straysN D l D.length) := by
 refine Tot.eq ?_
 unfold scrub_Strays
 refine Tot.bind (R := (· = straysN D l D.length)) ?_ fun r hr => Tot.ret hr
 unfold scrub_Strays_L1
 have hDl := hD.1
 refine Tot.each (l := D) (fun n a => a = straysN D l n) (fun n d a hlt hd ha => ?_) (fun a ha => ?_) [] rfl
 ·subst ha
  unfold scrub_Strays_B1
  have hsl := strays_len D l n
  have hh := hasN_len d
  refine Tot.cond (by simp; omega) (Tot.bind (R := (· = straysN D l (n + 1))) (Tot.bindeq (idx_some hd) (Tot.bindeq (p_Has d (hD.2 d (List.mem_of_getElem? hd))) ?_)) fun v hv => Tot.chk (by unfold InI64; dsimp only; omega) (Tot.ret ⟨rfl, hv⟩))
  unfold scrub_Strays_L2
  refine Tot.each (l := hasN d) (fun m a => a = straysN D l n ++ (((hasN d).take m).filter (strayB l (n : Int))).map fun i => (⟨i, (n : Int), 6⟩ : api_Find)) (fun m i a hlt2 hi ha => ?_) (fun a ha => ?_) _ (by simp)
  ·subst ha
   unfold scrub_Strays_B2
   have hf1 := List.length_filter_le (strayB l (n : Int)) ((hasN d).take m)
   have hf2 := List.length_take_le m (hasN d)
   refine Tot.cond (by simp; omega) (Tot.bind (R := (· = straysN D l n ++ (((hasN d).take (m + 1)).filter (strayB l (n : Int))).map fun i => (⟨i, (n : Int), 6⟩ : api_Find))) (Tot.bindeq (idx_some hi) (Tot.bindeq (p_ContainsF hl hc i (n : Int)) ?_)) fun v hv => Tot.chk (by unfold InI64; dsimp only; omega) (Tot.ret ⟨rfl, hv⟩))
   rw [take_snoc hi, filter_snoc]
   refine Tot.ite (fun h => Tot.chk (by simp only [List.length_cons, List.length_nil, List.length_append, List.length_map]; omega) (Tot.ret ?_)) fun h => Tot.ret ?_
   ·rw [if_pos (by simpa using h), List.map_append, List.append_assoc]; rfl
   ·rw [if_neg (by simpa using h)]
  ·subst ha
   unfold scrub_Strays_B2
   refine Tot.ncond (by simp) (Tot.out (Tot.ret ?_))
   rw [List.take_length]
   unfold straysN
   rw [List.range_succ, List.flatMap_append]
   simp only [List.flatMap_cons, List.flatMap_nil, List.append_nil]
   rw [List.getD_eq_getElem?_getD, hd]; rfl
 ·subst ha
  unfold scrub_Strays_B1
  exact Tot.ncond (by simp) (Tot.out (Tot.ret rfl))
end Go.Proofs
