/- Scrubbing, plain: strays, cleaned away. No condition. -/
import Derived.Test.YtpohijpdclienaaGreatXScrubCleanP27s
import Derived.Test.YtpohijpdclienaaGreatXScrubCleanP27p
namespace Go.Proofs
set_option linter.all false
open Go Go.Cat
set_option linter.all false
theorem r_SameFinds (l : List api_Find) (h : l.length ≤ 100000) : ref27_SameFinds l l = some true := by
 refine Tot.eq ?_
 unfold ref27_SameFinds ref27_SameFinds_L1
 refine Tot.ncond (by simp) ?_
 refine Tot.each0 (l := l) (fun _ => True) (fun n d hlt hx _ => ?_) (fun _ => ?_) trivial
 ·unfold ref27_SameFinds_B1
  exact Tot.cond (by simp; omega) (Tot.bindeq (idx_some hx) (Tot.bindeq (idx_some hx) (Tot.ncond (by simp) (Tot.chk (by unfold InI64; omega) (Tot.inl ⟨rfl, trivial⟩)))))
 ·unfold ref27_SameFinds_B1 ref27_SameFinds_J1
  exact Tot.ncond (by simp) (Tot.out (Tot.ret rfl))
structure Cl (D : List api_Disk) (F : List api_Find) (a : List api_Disk) : Prop where
 len : a.length = D.length
 fit : FitL a 120
 down : ∀ (s : Nat) (d e : api_Disk), D[s]? = some d → a[s]? = some e → e.Down = d.Down
 gone : ∀ (s : Nat) (d e : api_Disk), D[s]? = some d → a[s]? = some e → ∀ f, f ∈ F → f.Server = (s : Int) → thereN e f.Id = ([], 41)
 kept : ∀ (s : Nat) (d e : api_Disk), D[s]? = some d → a[s]? = some e → ∀ i, (∀ f, f ∈ F → f.Server = (s : Int) → f.Id ≠ i) → thereN e i = thereN d i
theorem cl_step {D : List api_Disk} {l : List api_Chain} {n : Nat} {f : api_Find} {a : List api_Disk} (hf : (straysN D l D.length)[n]? = some f) (h : Cl D ((straysN D l D.length).take n) a) :
  (cleanN a f).2 = 0 ∧ f.What = 6 ∧ Cl D ((straysN D l D.length).take (n + 1)) (cleanN a f).1 := by
 obtain ⟨s, d, hd, h3, h1, h2, h4⟩ := mem_strays.1 (List.mem_of_getElem? hf)
 have hsl : s < a.length := by rw [h.len]; exact idx_len hd
 have he : a[s]? = some a[s] := List.getElem?_eq_getElem hsl
 obtain ⟨hS, hat⟩ := at_of (D := a) (s := f.Server) (d := a[s]) (by omega) (by rw [h3]; exact he)
 have hnew : ∀ g, g ∈ (straysN D l D.length).take n → g.Server = (s : Int) → g.Id ≠ f.Id := fun g hg hgs hgi => by
  have hp := strays_pair D l D.length
  rw [← List.take_append_drop n (straysN D l D.length), List.pairwise_append] at hp
  have hfd : f ∈ (straysN D l D.length).drop n := by
   rw [List.mem_iff_getElem?]
   exact ⟨0, by rw [List.getElem?_drop]; exact hf⟩
  rcases hp.2.2 g hg f hfd with h | h
  ·exact h (by rw [hgs, h3])
  ·exact h hgi
 have ht : (thereN a[s] f.Id).2 = 0 := by
  rw [h.kept s d _ hd he f.Id hnew]; exact (hasN_mem.1 h1).2
 obtain ⟨hz, hfit, hv⟩ := clean_view (h.fit.d _ (List.getElem_mem hsl)) ht
 have hc : cleanN a f = (a.set s (syncD (loseN a[s] f.Id).1), 0) := by
  unfold cleanN
  rw [if_pos hS, hat]
  unfold turnN
  rw [if_pos hz]
  have : f.Server.toNat = s := by omega
  rw [this]
 have hup := (there_page ht).1
 rw [hc]
 refine ⟨rfl, h4, ?_, ⟨?_, ?_⟩, ?_, ?_, ?_⟩
 ·dsimp only; rw [List.length_set]; exact h.len
 ·dsimp only; rw [List.length_set]; exact h.fit.len
 ·intro x hx
  rcases List.mem_or_eq_of_mem_set hx with hx | rfl
  ·exact h.fit.d x hx
  ·exact hfit
 ·intro s' d' e' hd' he'
  dsimp only at he'
  by_cases e : s' = s
  ·subst e
   rw [List.getElem?_set_self hsl] at he'; cases he'
   rw [← h.down s' d' _ hd' he, hup]; rfl
  ·rw [List.getElem?_set_ne (fun q => e q.symm)] at he'
   exact h.down s' d' e' hd' he'
 ·intro s' d' e' hd' he' g hg hgs
  dsimp only at he'
  rw [take_snoc hf] at hg
  by_cases e : s' = s
  ·subst e
   rw [List.getElem?_set_self hsl] at he'; cases he'
   rw [hv]
   rcases List.mem_append.1 hg with hg | hg
   ·rw [if_neg (hnew g hg hgs)]
    exact h.gone s' d' _ hd' he g hg hgs
   ·rw [List.mem_singleton.1 hg, if_pos rfl]
  ·rw [List.getElem?_set_ne (fun q => e q.symm)] at he'
   rcases List.mem_append.1 hg with hg | hg
   ·exact h.gone s' d' e' hd' he' g hg hgs
   ·rw [List.mem_singleton.1 hg] at hgs; omega
 ·intro s' d' e' hd' he' i hi
  dsimp only at he'
  rw [take_snoc hf] at hi
  by_cases e : s' = s
  ·subst e
   rw [List.getElem?_set_self hsl] at he'; cases he'
   rw [hv, if_neg (fun q => hi f (by simp) h3 q.symm)]
   exact h.kept s' d' _ hd' he i fun g hg => hi g (List.mem_append_left _ hg)
  ·rw [List.getElem?_set_ne (fun q => e q.symm)] at he'
   exact h.kept s' d' e' hd' he' i fun g hg => hi g (List.mem_append_left _ hg)
theorem stands_same {D a : List api_Disk} {c : api_Chain} {s : Int} (hD : Small D) (ha : Small a) (hlen : a.length = D.length) (h : ∀ d e, D[s.toNat]? = some d → a[s.toNat]? = some e → e.Down = d.Down ∧ thereN e c.Id = thereN d c.Id) : standsN a c s = standsN D c s := by
 unfold standsN
 rcases Nat.lt_or_ge s.toNat D.length with hlt | hge
 ·have h1 : D[s.toNat]? = some D[s.toNat] := List.getElem?_eq_getElem hlt
  have h2 : a[s.toNat]? = some a[s.toNat] := List.getElem?_eq_getElem (by omega)
  obtain ⟨h3, h4⟩ := h _ _ h1 h2
  rw [h1, h2]
  dsimp only
  unfold standD
  rw [h3, getN_congr (ha.2 _ (List.mem_of_getElem? h2)) (hD.2 _ (List.mem_of_getElem? h1)) h4]
 ·rw [List.getElem?_eq_none hge, List.getElem?_eq_none (by omega)]
theorem look_same {D a : List api_Disk} {c : api_Chain} (h : ∀ s, s ∈ c.Servers → standsN a c s = standsN D c s) : lookN a c = lookN D c ∧ intactN a c = intactN D c := by
 constructor
 ·unfold lookN
  have : c.Servers.filter (fun s => standsN a c s != 0) = c.Servers.filter (fun s => standsN D c s != 0) := List.filter_congr fun s hs => by rw [h s hs]
  rw [this]
  refine List.map_congr_left fun s hs => ?_
  unfold findN; rw [h s (List.mem_filter.1 hs).1]
 ·unfold intactN
  exact List.filter_congr fun s hs => by rw [h s hs]
theorem l_ScrubClean (D : List api_Disk) (l : List api_Chain) (hk : okL_c_api_Disk D) (hk2 : okL_c_api_Chain l) : law27_ScrubClean D l = some true := by
 refine Tot.eq ?_
 unfold law27_ScrubClean
 refine Tot.bindeq p_head27 (Tot.bind (R := fun b => b = false → GreatD D ∧ l.length ≤ 12 ∧ RightL l) ?_ fun b hb => Tot.ite (fun _ => Tot.ret rfl) fun h => ?_)
 ·have := t_start D l
  rw [show (((law27_Great D l).bind fun x2 => (if x2 then some true else (ref27_Right l).bind fun x3 => some ((!x3))).bind fun c1 => some c1)) = ((law27_Great D l).bind fun x2 => (if x2 then some true else (ref27_Right l).bind fun x3 => some ((!x3)))) by simp only [Option.bind_fun_some]]
  exact this
 obtain ⟨hG, hl, hR⟩ := hb (by simpa using h)
 have hF := fit_of hG hk
 have hD := hF.small (by omega)
 have hco := hR.oks
 have hsl := strays_len D l D.length
 have hDl := hF.len
 refine Tot.bindeq (p_Strays hD hl hco) (Tot.ncond (by simp; omega) ?_)
 unfold law27_ScrubClean_L1
 refine Tot.each' (l := straysN D l D.length) (fun n a => Cl D ((straysN D l D.length).take n) a) (fun n f a hlt hf ha => ?_) (fun a ha => ?_) D ⟨rfl, hF, fun s d e h1 h2 => by rw [h1] at h2; cases h2; rfl, fun s d e _ _ f hf => by simp at hf, fun s d e h1 h2 _ _ => by rw [h1] at h2; cases h2; rfl⟩
 ·unfold law27_ScrubClean_B1
  obtain ⟨hz, hw, hcl⟩ := cl_step hf ha
  refine Tot.cond (by simp; omega) (Tot.bindeq (idx_some hf) (Tot.bindeq (p_Clean ha.fit (by omega) f) (Tot.bindeq (a := false) ?_ (Tot.ncond (by simp) (Tot.chk (by unfold InI64; dsimp only; omega) (Tot.inl ⟨rfl, hcl⟩))))))
  dsimp only
  rw [idx_some hf]
  simp [hz, hw, hcl.len]
 ·rw [List.take_length] at ha
  have haS := ha.fit.small (by omega)
  have hst : ∀ c, c ∈ l → ∀ s, s ∈ c.Servers → standsN a c s = standsN D c s := fun c hc s hs => by
   have h0 := (hco c hc).p s hs
   refine stands_same hD haS ha.len fun d e h1 h2 => ⟨ha.down _ _ _ h1 h2, ha.kept _ _ _ h1 h2 c.Id fun f hf hfs hfi => ?_⟩
   obtain ⟨s', d', hd', h3, h4, h5, h6⟩ := mem_strays.1 hf
   unfold strayB at h5
   rw [Bool.not_eq_true', List.any_eq_false] at h5
   refine h5 c hc ?_
   have : s = (s' : Int) := by omega
   simp [hfi, ← this, hs]
  unfold law27_ScrubClean_B1
  refine Tot.ncond (by simp) (Tot.out ?_)
  unfold law27_ScrubClean_J1 law27_ScrubClean_L2
  refine Tot.each0 (l := l) (fun _ => True) (fun n c hlt hc _ => ?_) (fun _ => ?_) trivial
  ·unfold law27_ScrubClean_B2
   have hcm := List.mem_of_getElem? hc
   have hll := look_len (D := D) (hco c hcm)
   have : (lookN D c).length ≤ 12 := by
    unfold lookN; rw [List.length_map]; exact Nat.le_trans (List.length_filter_le _ _) (hco c hcm).n
   refine Tot.cond (by simp; omega) (Tot.bindeq (idx_some hc) (Tot.bindeq (p_Look haS (hco c hcm)) (Tot.bindeq (idx_some hc) (Tot.bindeq (p_Look hD (hco c hcm)) ?_))))
   rw [(look_same (hst c hcm)).1]
   exact Tot.bindeq (r_SameFinds _ (by omega)) (Tot.ncond (by simp) (Tot.chk (by unfold InI64; omega) (Tot.inl ⟨rfl, trivial⟩)))
  ·unfold law27_ScrubClean_B2 law27_ScrubClean_J2
   refine Tot.ncond (by simp) (Tot.out ?_)
   have hno : straysN a l a.length = [] := by
    rw [List.eq_nil_iff_forall_not_mem]
    intro f hf
    obtain ⟨s, e, he, h3, h4, h5, h6⟩ := mem_strays.1 hf
    have hsl2 : s < D.length := by rw [← ha.len]; exact idx_len he
    have hd : D[s]? = some D[s] := List.getElem?_eq_getElem hsl2
    obtain ⟨hw, hz⟩ := hasN_mem.1 h4
    by_cases hex : ∃ g, g ∈ straysN D l D.length ∧ g.Server = (s : Int) ∧ g.Id = f.Id
    ·obtain ⟨g, hg, hgs, hgi⟩ := hex
     have := ha.gone s _ e hd he g hg hgs
     rw [← hgi, this] at hz; cases hz
    ·have hkp := ha.kept s _ e hd he f.Id fun g hg hgs hgi => hex ⟨g, hg, hgs, hgi⟩
     rw [hkp] at hz
     exact hex ⟨⟨f.Id, (s : Int), 6⟩, mem_strays.2 ⟨s, _, hd, rfl, hasN_mem.2 ⟨hw, hz⟩, h5, rfl⟩, rfl, rfl⟩
   simp [p_Strays haS hl hco, hno, Tot]
end Go.Proofs
