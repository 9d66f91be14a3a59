/- Scrubbing, plain: all is told as the document says. No condition. -/
import Derived.Test.YtcbpphgndncebabGreatXMendDoesP280x
namespace Go.Proofs
set_option linter.all false
open Go Go.Cat
set_option linter.all false
theorem lt_ext : ∀ {a b : List Int}, a.Pairwise (· < ·) → b.Pairwise (· < ·) → (∀ x, x ∈ a ↔ x ∈ b) → a = b
 | [], [], _, _, _ => rfl
 | [], y :: b, _, _, h => by have := (h y).2 (List.mem_cons_self ..); cases this
 | x :: a, [], _, _, h => by have := (h x).1 (List.mem_cons_self ..); cases this
 | x :: a, y :: b, ha, hb, h => by
  rw [List.pairwise_cons] at ha hb
  have e : x = y := by
   have h1 := (h x).1 (List.mem_cons_self ..)
   have h2 := (h y).2 (List.mem_cons_self ..)
   rcases List.mem_cons.1 h1 with h1 | h1
   ·exact h1
   ·rcases List.mem_cons.1 h2 with h2 | h2
    ·exact h2.symm
    ·have := hb.1 x h1; have := ha.1 y h2; omega
  subst e
  refine congrArg _ (lt_ext ha.2 hb.2 fun z => ⟨fun hz => ?_, fun hz => ?_⟩)
  ·have := ha.1 z hz
   rcases List.mem_cons.1 ((h z).1 (List.mem_cons_of_mem _ hz)) with e | e
   ·omega
   ·exact e
  ·have := hb.1 z hz
   rcases List.mem_cons.1 ((h z).2 (List.mem_cons_of_mem _ hz)) with e | e
   ·omega
   ·exact e
noncomputable def jobS (D : List api_Disk) (c : api_Chain) (s : Int) : api_Job :=
 ⟨c.Id, c.Ver, fromN D c s, s, ((intactN D c).length : Int), (((getN (D.getD (fromN D c s).toNat d0) c.Id).1.Data.length : Int) + 1)⟩
noncomputable def goes (D : List api_Disk) (c : api_Chain) (s : Int) : Bool := decide (s ∈ c.Servers) && (standsN D c s != 0) && (standsN D c s != 1)
noncomputable def jobsR (D : List api_Disk) (c : api_Chain) (n : Nat) : List api_Job := (((List.range n).map Int.ofNat).filter (goes D c)).map (jobS D c)
theorem jobs_eq {D : List api_Disk} {c : api_Chain} (hc : ChainOk c) (hn : c.Servers.Nodup) : jobsR D c D.length = jobsN D c := by
 have h1 : jobsN D c = (((sLook D c).filter fun f => f.What != 1).map (·.Server)).map (jobS D c) := by
  unfold jobsN; rw [List.map_map]; rfl
 rw [h1]
 unfold jobsR
 refine congrArg (List.map (jobS D c)) (lt_ext ?_ ?_ fun s => ?_)
 ·refine List.Pairwise.filter _ ?_
  rw [List.pairwise_map]
  exact (List.pairwise_lt_range (n := D.length)).imp fun {a b} h => by simpa using h
 ·rw [List.pairwise_map]
  exact (sLookN1 hn).filter _
 ·rw [List.mem_filter, List.mem_map, List.mem_map]
  unfold goes
  constructor
  ·rintro ⟨⟨n, hn, rfl⟩, h⟩
   simp only [Bool.and_eq_true, decide_eq_true_eq, bne_iff_ne, ne_eq] at h
   exact ⟨findN D c (Int.ofNat n), List.mem_filter.2 ⟨sLook_mem.2 (mem_look.2 ⟨_, h.1.1, h.1.2, rfl⟩), by simpa [findN] using h.2⟩, rfl⟩
  ·rintro ⟨f, hf, rfl⟩
   obtain ⟨hf, hw⟩ := List.mem_filter.1 hf
   obtain ⟨s, g1, g2, rfl⟩ := mem_look.1 (sLook_mem.1 hf)
   have hw : standsN D c s ≠ 1 := by simpa [findN] using hw
   have h0 := hc.p s g1
   have hlt : s.toNat < D.length := Nat.lt_of_not_le fun e => hw (stands_away.2 (.inl (List.getElem?_eq_none e)))
   refine ⟨⟨s.toNat, List.mem_range.2 hlt, by show ((s.toNat : Nat) : Int) = s; omega⟩, ?_⟩
   show (decide (s ∈ c.Servers) && (standsN D c s != 0) && (standsN D c s != 1)) = true
   simp [g1, g2, hw]
theorem r_from2 {D : List api_Disk} {c : api_Chain} (hc : ChainOk c) (hn : c.Servers.Nodup) (hne : intactN D c ≠ []) {s : Int} (hs : s ∈ c.Servers) (hp : standsN D c s ≠ 0) : ref27_from c (intactN D c) s = some (fromN D c s) := by
 have h1 := r_from hc hn (fun s => standsN D c s == 0) hs (by simpa using hp)
 have h2 := p_nextM hc (intact_len (D := D) hc) hne s
 have h3 : fromN D c s = fromM c (intactN D c) s := by unfold fromN nextN; rw [h2]; rfl
 rw [h3]; exact h1
theorem r_jobs {D : List api_Disk} {m : Nat} (hF : FitL D m) (hm : m ≤ 400) {c : api_Chain} (hc : ChainOk c) (hn : c.Servers.Nodup) (hne : intactN D c ≠ []) : ref27_jobs D c (intactN D c) = some (jobsN D c) := by
 refine Tot.eq ?_
 rw [← jobs_eq hc hn]
 unfold ref27_jobs
 refine Tot.bind (R := (· = jobsR D c D.length)) ?_ fun r hr => Tot.ret hr
 unfold ref27N29
 have hDl := hF.len
 have hcn := hc.n
 have hD := hF.small (by omega)
 refine Tot.each (l := D) (fun n a => a = jobsR D c n ∧ a.length ≤ n) (fun n d a hlt hd ha => ?_) (fun a ha => ?_) [] ⟨rfl, by simp⟩
 ·obtain ⟨rfl, hal⟩ := ha
  have e1 : jobsR D c (n + 1) = jobsR D c n ++ (if goes D c (n : Int) = true then [jobS D c (n : Int)] else []) := by
   unfold jobsR
   rw [List.range_succ, List.map_append, List.filter_append, List.map_append]
   refine congrArg _ ?_
   have e0 : ([n].map Int.ofNat).filter (goes D c) = if goes D c (n : Int) = true then [(n : Int)] else [] := by
    show (Int.ofNat n :: []).filter (goes D c) = _
    rw [List.filter_cons]; rfl
   rw [e0]
   split <;> rfl
  unfold ref27N28
  refine Tot.cond (by simp; omega) (Tot.bind (R := fun v => v = jobsR D c (n + 1) ∧ v.length ≤ n + 1) (Tot.bindeq (r_stands hF hm c (by dsimp only; omega)) (Tot.bindeq (a := goes D c (n : Int)) ?_ (Tot.ite (fun h => ?_) fun h => ?_))) fun v hv => Tot.chk (by unfold InI64; dsimp only; omega) (Tot.ret ⟨rfl, hv⟩))
  ·rw [r_has _ _ (by omega)]
   unfold goes
   simp only [Option.bind_some]
   by_cases a1 : (n : Int) ∈ c.Servers
   ·by_cases a2 : standsN D c (n : Int) = 0
    ·simp [a1, a2]
    ·simp [a1, a2]
   ·simp [a1]
  ·have hg := h
   unfold goes at hg
   simp only [Bool.and_eq_true, decide_eq_true_eq, bne_iff_ne, ne_eq] at hg
   obtain ⟨⟨g1, g2⟩, g3⟩ := hg
   obtain ⟨hn1, hn2⟩ := p_next hc (intact_len (D := D) hc) hne (n : Int)
   have hi := mem_intact.1 hn2
   obtain ⟨d', hd', _⟩ := standsN1.1 hi.2
   have h0 := hc.p _ hi.1
   have hidx : idx D (fromN D c (n : Int)) = some d' := by unfold idx fromN; rw [if_pos h0, hd']
   have hds := hD.2 d' (List.mem_of_getElem? hd')
   have hgd : D.getD (fromN D c (n : Int)).toNat d0 = d' := by unfold fromN; rw [List.getD_eq_getElem?_getD, hd']; rfl
   have hsz := (getN_spec hds c.Id).2.1.1
   refine Tot.bindeq (r_from2 hc hn hne g1 g2) (Tot.bindeq hidx (Tot.bindeq (r_GetN hds (hF.d d' (List.mem_of_getElem? hd')).uniq c.Id) (Tot.chk (by unfold InI64; omega) (Tot.chk (by simp only [List.length_cons, List.length_nil]; (try dsimp only); omega) (Tot.ret ⟨?_, by (try dsimp only); rw [List.length_append]; simp only [List.length_cons, List.length_nil]; omega⟩)))))
   rw [e1, if_pos h]
   refine congrArg (fun x => _ ++ [x]) ?_
   unfold jobS
   rw [hgd]
  ·exact Tot.ret ⟨by rw [e1, if_neg h, List.append_nil], by dsimp only; omega⟩
 ·obtain ⟨rfl, _⟩ := ha
  unfold ref27N28
  exact Tot.ncond (by simp) (Tot.out (Tot.ret rfl))
theorem r_Plan {D : List api_Disk} {m : Nat} (hF : FitL D m) (hm : m ≤ 400) {l : List api_Chain} (hl : l.length ≤ 12) (hR : RightL l) : ref27_Plan D l = some (planJ D l, planL D l) := by
 refine Tot.eq ?_
 have hD := hF.small (by omega)
 unfold ref27_Plan
 refine Tot.bind (R := (· = (planJ D l, planL D l))) ?_ fun r hr => Tot.ret (by rw [hr])
 unfold ref27N5
 refine Tot.each (l := l) (fun n a => a = (planJ D (l.take n), planL D (l.take n)) ∧ a.1.length ≤ 12 * n ∧ a.2.length ≤ n) (fun n c a hlt hx ha => ?_) (fun a ha => ?_) ([], []) ⟨rfl, by simp, by simp⟩
 ·obtain ⟨rfl, h1, h2⟩ := ha
  replace h1 : (planJ D (l.take n)).length ≤ 12 * n := h1
  replace h2 : (planL D (l.take n)).length ≤ n := h2
  have hcm := List.mem_of_getElem? hx
  have hco := hR.oks c hcm
  have hj := jobs_len (D := D) hco
  have e1 : planJ D (l.take (n + 1)) = planJ D (l.take n) ++ (if intactN D c = [] then [] else jobsN D c) := by
   unfold planJ; rw [take_snoc hx, List.flatMap_append]; simp
  have e2 : planL D (l.take (n + 1)) = planL D (l.take n) ++ (if intactN D c = [] then [c.Id] else []) := by
   unfold planL; rw [take_snoc hx, filter_snoc]
   by_cases h : intactN D c = []
   ·rw [if_pos (by simp [h]), if_pos h]; simp
   ·rw [if_neg (by simp [h]), if_neg h]; simp
  unfold ref27N4
  refine Tot.cond (by simp; omega) (Tot.bind (R := fun v => v = (planJ D (l.take (n + 1)), planL D (l.take (n + 1))) ∧ v.1.length ≤ 12 * (n + 1) ∧ v.2.length ≤ n + 1) (Tot.bindeq (idx_some hx) (Tot.bindeq (r_Intact hF hm hco) (Tot.ite (fun h => ?_) fun h => ?_))) fun v hv => Tot.chk (by unfold InI64; dsimp only; omega) (Tot.ret ⟨rfl, hv⟩))
  ·have h0 : intactN D c = [] := by simpa using h
   refine Tot.bindeq (idx_some hx) (Tot.chk (by simp only [List.length_cons, List.length_nil]; (try dsimp only); omega) (Tot.ret ⟨?_, by (try dsimp only at *); omega, by (try dsimp only at *); rw [List.length_append]; simp only [List.length_cons, List.length_nil]; omega⟩))
   rw [e1, e2, if_pos h0, if_pos h0, List.append_nil]
  ·have h0 : intactN D c ≠ [] := fun e => h (by simp [e])
   refine Tot.bindeq (idx_some hx) (Tot.bindeq (r_jobs hF hm hco (hR.mem hcm).2.2.2.2 h0) (Tot.chk (by (try dsimp only); omega) (Tot.ret ⟨?_, by (try dsimp only at *); rw [List.length_append]; omega, by (try dsimp only at *); omega⟩)))
   rw [e1, e2, if_neg h0, if_neg h0, List.append_nil]
 ·obtain ⟨rfl, _⟩ := ha
  unfold ref27N4
  exact Tot.ncond (by simp) (Tot.out (Tot.ret (by rw [List.take_length])))
end Go.Proofs
