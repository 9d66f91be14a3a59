/- Scrubbing, plain: what is planned, done. No condition. -/
import Derived.Test.YtpohijpdclienabGreatXScrubRotP270q
import Derived.Test.YtpohijpdclienabGreatXScrubRotP270t
namespace Go.Proofs
set_option linter.all false
open Go Go.Cat
set_option linter.all false
structure JobIn (D : List api_Disk) (l : List api_Chain) (j : api_Job) : Prop where
 ex : ∃ c, c ∈ l ∧ j.Id = c.Id ∧ j.Ver = c.Ver ∧ j.To ∈ c.Servers ∧ j.From ∈ intactN D c ∧ standsN D c j.To ≠ 0 ∧ standsN D c j.To ≠ 1
theorem job_in {D : List api_Disk} (hD : Small D) {l : List api_Chain} (hR : RightL l) {j : api_Job} (h : j ∈ planJ D l) : JobIn D l j := by
 obtain ⟨c, hc, hne, hj⟩ := mem_plan.1 h
 have hok := job_ok hD (hR.oks c hc) hne hj
 obtain ⟨s, h1, h2, h3, rfl⟩ := mem_jobs.1 hj
 exact ⟨c, hc, rfl, rfl, h1, hok.from_, h2, h3⟩
structure Md (D : List api_Disk) (J : List api_Job) (a : List api_Disk) : Prop where
 len : a.length = D.length
 fit : FitL a (120 + J.length)
 down : ∀ (s : Nat) (d e : api_Disk), D[s]? = some d → a[s]? = some e → e.Down = d.Down
 moved : ∀ (s : Nat) (e : api_Disk), a[s]? = some e → ∀ j, j ∈ J → j.To = (s : Int) → thereN e j.Id = thereN (atS D j.From) j.Id
 kept : ∀ (s : Nat) (d e : api_Disk), D[s]? = some d → a[s]? = some e → ∀ i, (∀ j, j ∈ J → j.To = (s : Int) → j.Id ≠ i) → thereN e i = thereN d i
theorem stands_up {D : List api_Disk} {c : api_Chain} {s : Int} (h0 : 0 ≤ s) (h : standsN D c s ≠ 1) : isS D s ∧ (atS D s).Down = false := by
 have h2 := fun e => h (stands_away.2 e)
 cases hd : D[s.toNat]? with
 | none => exact (h2 (.inl hd)).elim
 | some d =>
  obtain ⟨hS, hat⟩ := at_of h0 hd
  refine ⟨hS, ?_⟩
  rw [hat]
  cases hb : d.Down with
  | false => rfl
  | true => exact (h2 (.inr ⟨d, hd, hb⟩)).elim
theorem intact_get {D : List api_Disk} {c : api_Chain} {s : Int} (h0 : 0 ≤ s) (h : standsN D c s = 0) : isS D s ∧ (atS D s).Down = false ∧ (getN (atS D s) c.Id).2 = 0 ∧ (getN (atS D s) c.Id).1.Ver = c.Ver := by
 obtain ⟨d, hd, h1, h2, h3⟩ := stands_intact.1 h
 obtain ⟨hS, hat⟩ := at_of h0 hd
 rw [hat]; exact ⟨hS, h1, h2, h3⟩
theorem get_there {d : api_Disk} (hd : smallD d) {i : Int} (h : (getN d i).2 = 0) : (thereN d i).2 = 0 := by
 have := (getN_spec hd i).1
 by_cases e : (thereN d i).2 = 0
 ·exact e
 ·rw [if_neg e] at this; rw [← this]; exact h
theorem md_step {D : List api_Disk} {l : List api_Chain} (hF : FitL D 120) (hR : RightL l) {J : List api_Job} {j : api_Job} {a : List api_Disk} (hJ : ∀ k, k ∈ J → JobIn D l k) (hj : JobIn D l j) (hnew : ∀ k, k ∈ J → k.To = j.To → k.Id ≠ j.Id) (hlen : J.length ≤ 200) (h : Md D J a) :
  (copyN a j).2 = 0 ∧ Md D (J ++ [j]) (copyN a j).1 := by
 have hD := hF.small (by omega)
 have haS := h.fit.small (by omega)
 obtain ⟨c, hc, e1, e2, hto, hfr, hs0, hs1⟩ := hj.ex
 have hco := hR.oks c hc
 obtain ⟨hfs, hf0⟩ := mem_intact.1 hfr
 have p1 := hco.p _ hfs
 have p2 := hco.p _ hto
 obtain ⟨g1, g2, g3, g4⟩ := intact_get p1 hf0
 obtain ⟨t1, t2⟩ := stands_up p2 hs1
 have hfa : isS a j.From := ⟨g1.1, by rw [h.len]; exact g1.2⟩
 have hta : isS a j.To := ⟨t1.1, by rw [h.len]; exact t1.2⟩
 have hat := at_get hta
 have haf := at_get hfa
 have hdt := at_get t1
 have hdf := at_get g1
 have hup : (atS a j.To).Down = false := by rw [h.down _ _ _ hdt hat]; exact t2
 have hsame : thereN (atS a j.From) j.Id = thereN (atS D j.From) j.Id := h.kept _ _ _ hdf haf j.Id fun k hk hkt hki => by
  obtain ⟨c', hc', k1, k2, k3, k4, k5, k6⟩ := (hJ k hk).ex
  have : c' = c := hR.uniqId hc' hc (by omega)
  subst this
  have : k.To = j.From := by omega
  rw [this] at k5; exact k5 hf0
 have hsmD := hD.2 _ (at_mem g1)
 have hsma := haS.2 _ (at_mem hfa)
 have hget : getN (atS a j.From) j.Id = getN (atS D j.From) j.Id := getN_congr hsma hsmD hsame
 rw [← e1] at g3 g4
 have hth := get_there hsmD g3
 obtain ⟨m1, m2, m3⟩ := (getN_spec hsmD j.Id).2.2.1 g3
 obtain ⟨_, hw, q, hq, hqi, hqd⟩ := there_page hth
 have hpl : (pageN (getN (atS D j.From) j.Id).1).length ≤ 200 := by
  rw [m3, ← hqd]; exact ((hF.d _ (at_mem g1)).x q hq).1
 have hfit := h.fit.d _ (at_mem hta)
 obtain ⟨hz, hft, hv⟩ := put_view hfit hup m1 hpl
 rw [m2] at hv
 have hpage : (pageN (getN (atS D j.From) j.Id).1, (0 : Int)) = thereN (atS D j.From) j.Id := by rw [m3, ← hth]
 rw [hpage] at hv
 have hcp : copyN a j = (a.set j.To.toNat (syncD (putN (atS a j.To) (getN (atS D j.From) j.Id).1).1), 0) := by
  unfold copyN
  rw [if_pos ⟨hfa, hta⟩, hget, if_neg (by rw [g3]; simp), if_neg (by rw [g4, e2]; simp)]
  unfold turnN
  rw [if_pos hz]
 have hsl : j.To.toNat < a.length := idx_len hat
 rw [hcp]
 refine ⟨rfl, ?_, ⟨?_, ?_⟩, ?_, ?_, ?_⟩
 ·dsimp only; rw [List.length_set]; exact h.len
 ·dsimp only; rw [List.length_set]; exact h.fit.len
 ·intro x hx
  have e : 120 + (J ++ [j]).length = 120 + J.length + 1 := by simp; omega
  rw [e]
  rcases List.mem_or_eq_of_mem_set hx with hx | rfl
  ·exact (h.fit.d x hx).mono (by omega)
  ·exact hft
 ·intro s d e hd he
  dsimp only at he
  by_cases es : s = j.To.toNat
  ·subst es
   rw [List.getElem?_set_self hsl] at he; cases he
   rw [hdt] at hd; cases hd
   rw [t2]; rfl
  ·rw [List.getElem?_set_ne (fun q => es q.symm)] at he
   exact h.down s d e hd he
 ·intro s e he k hk hkt
  dsimp only at he
  by_cases es : s = j.To.toNat
  ·subst es
   rw [List.getElem?_set_self hsl] at he; cases he
   rw [hv]
   rcases List.mem_append.1 hk with hk | hk
   ·rw [if_neg (hnew k hk (by omega))]
    exact h.moved _ _ hat k hk hkt
   ·rw [List.mem_singleton.1 hk, if_pos rfl]
  ·rw [List.getElem?_set_ne (fun q => es q.symm)] at he
   rcases List.mem_append.1 hk with hk | hk
   ·exact h.moved s e he k hk hkt
   ·rw [List.mem_singleton.1 hk] at hkt; omega
 ·intro s d e hd he i hi
  dsimp only at he
  by_cases es : s = j.To.toNat
  ·subst es
   rw [List.getElem?_set_self hsl] at he; cases he
   rw [hv, if_neg (fun q => hi j (by simp) (by omega) q.symm)]
   exact h.kept _ d _ hd hat i fun k hk => hi k (List.mem_append_left _ hk)
  ·rw [List.getElem?_set_ne (fun q => es q.symm)] at he
   exact h.kept s d e hd he i fun k hk => hi k (List.mem_append_left _ hk)
theorem p_done {D : List api_Disk} {l : List api_Chain} (hF : FitL D 120) (hR : RightL l) {J : List api_Job} (hJ : ∀ k, k ∈ J → JobIn D l k) (hp : J.Pairwise fun a b => ¬ (a.To = b.To ∧ a.Id = b.Id)) (hlen : J.length ≤ 200) :
  Tot (law27_done D J) (fun r => r.2 = true ∧ Md D J r.1) := by
 unfold law27_done law27_done_L1
 refine Tot.each' (l := J) (fun n a => Md D (J.take n) a) (fun n j a hlt hj ha => ?_) (fun a ha => ?_) D ⟨rfl, hF.mono (by omega), fun s d e h1 h2 => by rw [h1] at h2; cases h2; rfl, fun s e _ k hk => by simp at hk, fun s d e h1 h2 _ _ => by rw [h1] at h2; cases h2; rfl⟩
 ·unfold law27_done_B1
  have htl := List.length_take_le n J
  have hjm := List.mem_of_getElem? hj
  obtain ⟨hz, hm⟩ := md_step hF hR (fun k hk => hJ k (List.mem_of_mem_take hk)) (hJ j hjm) (fun k hk hkt hki => by
   rw [← List.take_append_drop n J, List.pairwise_append] at hp
   have hjd : j ∈ J.drop n := by
    rw [List.mem_iff_getElem?]
    exact ⟨0, by rw [List.getElem?_drop]; exact hj⟩
   exact hp.2.2 k hk j hjd ⟨hkt, hki⟩) (by omega) ha
  rw [← take_snoc hj] at hm
  refine Tot.cond (by simp; omega) (Tot.bindeq (idx_some hj) (Tot.bindeq (p_Copy ha.fit (by omega) j) (Tot.bindeq (a := false) ?_ (Tot.ncond (by simp) (Tot.chk (by unfold InI64; dsimp only; omega) (Tot.inl ⟨rfl, hm⟩))))))
  simp [hz, hm.len, ha.len]
 ·unfold law27_done_B1 law27_done_J1
  rw [List.take_length] at ha
  exact Tot.ncond (by simp) (Tot.out (Tot.ret ⟨rfl, ha⟩))
section
variable {D a : List api_Disk} {l : List api_Chain} {J : List api_Job}
theorem md_stands (hF : FitL D 120) (hR : RightL l) (hJ : ∀ j, j ∈ J ↔ j ∈ planJ D l) (hlen : J.length ≤ 200) (h : Md D J a) {c : api_Chain} (hc : c ∈ l) {s : Int} (hs : s ∈ c.Servers) :
  (intactN D c = [] → standsN a c s = standsN D c s) ∧ (intactN D c ≠ [] → standsN a c s = if standsN D c s = 1 then 1 else 0) := by
 have hD := hF.small (by omega)
 have haS := h.fit.small (by omega)
 have hco := hR.oks c hc
 have h0 := hco.p s hs
 have keep : (∀ j, j ∈ J → j.To = s → j.Id ≠ c.Id) → standsN a c s = standsN D c s := fun hno =>
  stands_same hD haS h.len fun d e h1 h2 => ⟨h.down _ _ _ h1 h2, h.kept _ _ _ h1 h2 c.Id fun j hj hjt => hno j hj (by omega)⟩
 refine ⟨fun he => keep fun j hj hjt hji => ?_, fun hne => ?_⟩
 ·obtain ⟨c', hc', k1, k2, k3, k4, k5, k6⟩ := (job_in hD hR ((hJ j).1 hj)).ex
  have : c' = c := hR.uniqId hc' hc (by omega)
  subst this
  rw [he] at k4; cases k4
 by_cases hs1 : standsN D c s = 1
 ·rw [if_pos hs1]
  rw [stands_away] at hs1 ⊢
  rcases hs1 with h1 | ⟨d, h1, h2⟩
  ·exact .inl (by rw [List.getElem?_eq_none_iff] at h1 ⊢; rw [h.len]; exact h1)
  ·have hal : s.toNat < a.length := by rw [h.len]; exact idx_len h1
   exact .inr ⟨_, List.getElem?_eq_getElem hal, by rw [h.down _ _ _ h1 (List.getElem?_eq_getElem hal)]; exact h2⟩
 ·rw [if_neg hs1]
  by_cases hs0 : standsN D c s = 0
  ·rw [keep fun j hj hjt hji => ?_, hs0]
   obtain ⟨c', hc', k1, k2, k3, k4, k5, k6⟩ := (job_in hD hR ((hJ j).1 hj)).ex
   have : c' = c := hR.uniqId hc' hc (by omega)
   subst this
   rw [hjt] at k5; exact k5 hs0
  ·have hjm : jobOf D c (findN D c s) ∈ J := (hJ _).2 (mem_plan.2 ⟨c, hc, hne, mem_jobs.2 ⟨s, hs, hs0, hs1, rfl⟩⟩)
   obtain ⟨hn1, hn2⟩ := p_next hco (intact_len hco) hne s
   obtain ⟨hfs, hf0⟩ := mem_intact.1 hn2
   obtain ⟨g1, g2, g3, g4⟩ := intact_get (hco.p _ hfs) hf0
   obtain ⟨t1, t2⟩ := stands_up h0 hs1
   have hta : isS a s := ⟨t1.1, by rw [h.len]; exact t1.2⟩
   have hat := at_get hta
   have hmv := h.moved _ _ hat _ hjm (show s = ((s.toNat : Nat) : Int) by omega)
   have hmv : thereN (atS a s) c.Id = thereN (atS D (nextN c (intactN D c) s)) c.Id := hmv
   have hg := getN_congr (haS.2 _ (at_mem hta)) (hD.2 _ (at_mem g1)) hmv
   rw [stands_intact]
   exact ⟨_, hat, by rw [h.down _ _ _ (at_get t1) hat]; exact t2, by rw [hg]; exact g3, by rw [hg]; exact g4⟩
end
end Go.Proofs
