/- Scrubbing, plain: what the document plans. No condition. -/
import Derived.Test.YtcbpphgndncebabGreatXMendDoesP280w
import Derived.Test.YtcbpphgndncebabGreatXMendDoesP280q
import Derived.Test.YtcbpphgndncebabGreatXMendDoesP280t
namespace Go.Proofs
set_option linter.all false
open Go Go.Cat
set_option linter.all false
theorem r_stands {D : List api_Disk} {n : Nat} (hF : FitL D n) (hn : n ≤ 400) (c : api_Chain) {s : Int} (h0 : 0 ≤ s) : ref27N20 D c s = some (standsN D c s) := by
 refine Tot.eq ?_
 have hD := hF.small (by omega)
 unfold ref27N20
 rcases Nat.lt_or_ge s.toNat D.length with hlt | hge
 ·have hx : D[s.toNat]? = some D[s.toNat] := List.getElem?_eq_getElem hlt
  have hd := hD.2 _ (List.getElem_mem hlt)
  have hu := (hF.d _ (List.getElem_mem hlt)).uniq
  have hi : idx D s = some D[s.toNat] := by unfold idx; rw [if_pos h0, hx]
  have hst : standsN D c s = standD D[s.toNat] c := by unfold standsN; rw [hx]
  rw [hst]
  generalize D[s.toNat] = d at *
  refine Tot.bb (c := d.Down) (by rw [if_neg (by simp; omega), hi]; rfl) ?_
  unfold standD
  refine Tot.ite (fun h => Tot.ret (by rw [if_pos h])) fun h => ?_
  rw [if_neg h]
  refine Tot.bindeq hi (Tot.bindeq (r_GetN hd hu c.Id) ?_)
  refine Tot.ite (fun h => ?_) fun h => ?_
  ·have h' : (getN d c.Id).2 = 41 := by simpa using h
   exact Tot.ret (by rw [if_pos h'])
  have h' : ¬ (getN d c.Id).2 = 41 := by simpa using h
  rw [if_neg h']
  refine Tot.ite (fun h => ?_) fun h => ?_
  ·have h' : (getN d c.Id).2 ≠ 0 := by simpa using h
   exact Tot.ret (by rw [if_pos h'])
  have h' : ¬ (getN d c.Id).2 ≠ 0 := by simpa using h
  rw [if_neg h']
  refine Tot.ite (fun h => ?_) fun h => ?_
  ·exact Tot.ret (by rw [if_pos (of_decide_eq_true h)])
  rw [if_neg (fun e => h (decide_eq_true e))]
  refine Tot.ite (fun h => ?_) fun h => ?_
  ·exact Tot.ret (by rw [if_pos (of_decide_eq_true h)])
  rw [if_neg (fun e => h (decide_eq_true e))]
  exact Tot.ret rfl
 ·refine Tot.bb (c := true) (by rw [if_pos (by simp; omega)]) (Tot.cond rfl (Tot.ret ?_))
  unfold standsN
  rw [List.getElem?_eq_none hge]
theorem r_Intact {D : List api_Disk} {m : Nat} (hF : FitL D m) (hm : m ≤ 400) {c : api_Chain} (hc : ChainOk c) : ref27N1 D c = some (intactN D c) := by
 refine Tot.eq ?_
 unfold ref27N1
 refine Tot.bind (R := (· = intactN D c)) ?_ fun r hr => Tot.ret hr
 unfold ref27N3
 have hlen := hc.n
 refine Tot.each (l := c.Servers) (fun n a => a = (c.Servers.take n).filter fun s => standsN D c s == 0) (fun n x a hlt hx ha => ?_) (fun a ha => ?_) [] rfl
 ·subst ha
  unfold ref27N2
  refine Tot.cond (by simp; omega) (Tot.bind (R := (· = (c.Servers.take (n + 1)).filter fun s => standsN D c s == 0)) (Tot.bindeq (idx_some hx) (Tot.bindeq (r_stands hF hm c (hc.p x (List.mem_of_getElem? hx))) ?_)) fun r hr => Tot.chk (by unfold InI64; dsimp only; omega) (Tot.ret ⟨rfl, hr⟩))
  rw [take_snoc hx, filter_snoc]
  have hf := List.length_filter_le (fun s => standsN D c s == 0) (c.Servers.take n)
  have ht := List.length_take_le n c.Servers
  refine Tot.ite (fun h => Tot.bindeq (idx_some hx) (Tot.chk (by simp only [List.length_cons, List.length_nil]; omega) (Tot.ret (by rw [if_pos (by simpa using h)])))) fun h => Tot.ret (by rw [if_neg (by simpa using h)])
 ·subst ha
  unfold ref27N2
  exact Tot.ncond (by simp) (Tot.out (Tot.ret (by rw [List.take_length]; rfl)))
def ixN (l : List Int) (x : Int) : Int := match l.findIdx? (fun y => x == y) with | some n => (n : Int) | none => -1
theorem p_Index27 (l : List Int) (x : Int) (h : l.length ≤ 100000) : slicesN29 l x = some (ixN l x) := by
 unfold slicesN29 slicesN32
 rw [loop_find (b := l) (fun y => x == y) (fun n _ => (n : Int)) (-1)]
 ·unfold ixN
  refine congrArg some ?_
  cases hf : l.findIdx? (fun y => x == y) with
  | none => rfl
  | some n =>
   obtain ⟨hn, _⟩ := List.findIdx?_eq_some_iff_getElem.1 hf
   simp only [List.getElem?_eq_getElem hn]
 ·intro n y hy hn
  unfold slicesN30
  rw [if_pos (by simp; omega), idx_some hy, Option.bind_some]
  by_cases e : (x == y) = true
  ·rw [if_pos e, if_pos e]; rfl
  ·rw [if_neg e, if_neg e, chk_pos (by unfold InI64; omega)]
 ·unfold slicesN30 slicesN31
  rw [if_neg (by simp)]; rfl
theorem ix_at {l : List Int} (hn : l.Nodup) {n : Nat} {x : Int} (h : l[n]? = some x) : ixN l x = n := by
 obtain ⟨hl, hx⟩ := List.getElem?_eq_some_iff.1 h
 unfold ixN
 have : l.findIdx? (fun y => x == y) = some n := by
  rw [List.findIdx?_eq_some_iff_getElem]
  refine ⟨hl, by simp [hx], fun j hj => ?_⟩
  unfold List.Nodup at hn
  rw [List.pairwise_iff_getElem] at hn
  have := hn j n (by omega) hl hj
  rw [hx] at this
  simpa using fun e => this e.symm
 rw [this]
noncomputable def fromM (c : api_Chain) (own : List Int) (s : Int) : Int := (own.find? fun y => decide (ixN c.Servers y > ixN c.Servers s)).getD (own.getLastD (-1))
theorem p_nextM {c : api_Chain} {own : List Int} (hc : ChainOk c) (h : own.length ≤ 12) (h0 : own ≠ []) (s : Int) : scrub_next c own s = some (fromM c own s) := by
 have hcn := hc.n
 have hpos : 0 < own.length := List.length_pos_iff.2 h0
 unfold scrub_next
 rw [p_Index27 _ _ (by omega), Option.bind_some]
 unfold slicesN25 slicesN28
 rw [loop_find (b := own) (fun y => decide (ixN c.Servers y > ixN c.Servers s)) (fun n _ => (n : Int)) (-1)]
 ·unfold fromM
  rw [Option.bind_some, ← find_idx]
  cases hf : own.findIdx? (fun y => decide (ixN c.Servers y > ixN c.Servers s)) with
  | none =>
   have hl : own[own.length - 1]? = some (own.getLastD (-1)) := by
    rw [← List.getLast?_eq_getElem?]
    obtain ⟨y, hy⟩ := Option.isSome_iff_exists.1 (List.getLast?_isSome.2 h0)
    rw [List.getLastD_eq_getLast?, hy]; rfl
   dsimp only
   rw [if_neg (by simp), chk_pos (by unfold InI64; omega), show ((own.length : Int) - 1) = ((own.length - 1 : Nat) : Int) by omega, idx_some hl]; rfl
  | some n =>
   obtain ⟨hn, _⟩ := List.findIdx?_eq_some_iff_getElem.1 hf
   have hx : own[n]? = some own[n] := List.getElem?_eq_getElem hn
   simp only [hx]
   rw [if_pos (by simp), idx_some hx]; rfl
 ·intro n y hy hn
  unfold slicesN26 scrubN15
  rw [if_pos (by simp; omega), idx_some hy, Option.bind_some, p_Index27 _ _ (by omega), Option.bind_some, Option.bind_some]
  by_cases e : decide (ixN c.Servers y > ixN c.Servers s) = true
  ·rw [if_pos e, if_pos e]; rfl
  ·rw [if_neg e, if_neg e, chk_pos (by unfold InI64; omega)]
 ·unfold slicesN26 slicesN27
  rw [if_neg (by simp)]; rfl
theorem r_from {c : api_Chain} (hc : ChainOk c) (hn : c.Servers.Nodup) (p : Int → Bool) {s : Int} (hs : s ∈ c.Servers) (hp : p s = false) : ref27_from c (c.Servers.filter p) s = some (fromM c (c.Servers.filter p) s) := by
 refine Tot.eq ?_
 have hcn := hc.n
 obtain ⟨k, hk⟩ := memR hs
 have hix := ix_at hn hk
 have hfl : (c.Servers.filter p).length ≤ 12 := Nat.le_trans (List.length_filter_le _ _) hcn
 unfold ref27_from ref27N24 fromM
 rw [hix]
 refine Tot.loop (fun t : Int × Bool × Int => ∃ n : Nat, t.2.2 = (n : Int) ∧ n ≤ c.Servers.length ∧ t.2.1 = decide (k < n) ∧ t.1 = ((c.Servers.take n).filter p).getLastD (-1) ∧ ∀ m y, m < n → c.Servers[m]? = some y → p y = true → m < k) (fun t => c.Servers.length + 1 - t.2.2.toNat) ?_ (-1, false, 0) ⟨0, rfl, Nat.zero_le _, by simp, by simp, fun m y h => by omega⟩
 rintro ⟨v, b, i⟩ ⟨n, hi, hnl, hb, hv, hno⟩
 dsimp only at hi hb hv
 subst hi hb hv
 unfold ref27N21
 rcases Nat.lt_or_ge n c.Servers.length with hlt | hge
 ·have hx : c.Servers[n]? = some c.Servers[n] := List.getElem?_eq_getElem hlt
  generalize c.Servers[n] = x at hx
  have hxs : x = s ↔ n = k := by
   constructor
   ·intro e
    subst e
    have := ix_at hn hx
    omega
   ·intro e; subst e; rw [hk] at hx; cases hx; rfl
  refine Tot.cond (by simp; omega) (Tot.bindeq (a := decide (k < n + 1)) ?_ (Tot.bindeq (idx_some hx) (Tot.bindeq (r_has _ x (by omega)) ?_)))
  ·rw [idx_some hx]
   simp only [Option.bind_some, ite_some]
   refine congrArg some ?_
   by_cases e : x = s
   ·have := hxs.1 e
    simp [e]; omega
   ·have : n ≠ k := fun q => e (hxs.2 q)
    have e' : (x == s) = false := by simpa using e
    rw [e']
    simp only [Bool.false_eq_true, if_false, decide_eq_decide]; omega
  have hmem : x ∈ c.Servers.filter p ↔ p x = true := by
   rw [List.mem_filter]; exact ⟨fun h => h.2, fun h => ⟨List.mem_of_getElem? hx, h⟩⟩
  have next : ∀ v : Int, v = ((c.Servers.take (n + 1)).filter p).getLastD (-1) → (p x = true → n < k) → Tot (ref27N23 (((c.Servers.take n).filter p).getLastD (-1), decide (k < n), (n : Int)) (v, decide (k < n + 1))) (RdP (fun s' => (∃ n : Nat, s'.2.2 = (n : Int) ∧ n ≤ c.Servers.length ∧ s'.2.1 = decide (k < n) ∧ s'.1 = ((c.Servers.take n).filter p).getLastD (-1) ∧ ∀ m y, m < n → c.Servers[m]? = some y → p y = true → m < k) ∧ c.Servers.length + 1 - s'.2.2.toNat < c.Servers.length + 1 - ((n : Int)).toNat) fun r => r = ((c.Servers.filter p).find? fun y => decide (ixN c.Servers y > (k : Int))).getD ((c.Servers.filter p).getLastD (-1))) := fun v hv hpk => by
   unfold ref27N23
   refine Tot.chk (by unfold InI64; dsimp only; omega) (Tot.inl ⟨⟨n + 1, by dsimp only; omega, hlt, rfl, hv, fun m y hm hy hpy => ?_⟩, by dsimp only; omega⟩)
   by_cases e : m = n
   ·subst e; rw [hx] at hy; cases hy; exact hpk hpy
   ·exact hno m y (by omega) hy hpy
  refine Tot.ite (fun h => ?_) fun h => ?_
  ·have hpx : p x = false := by
    cases h' : p x with
    | false => rfl
    | true => rw [decide_eq_true (hmem.2 h')] at h; simp at h
   refine next _ ?_ (fun h' => by rw [hpx] at h'; cases h')
   rw [take_snoc hx, filter_snoc, if_neg (by simp [hpx])]
  ·have hpx : p x = true := by
    cases h' : p x with
    | true => rfl
    | false => rw [decide_eq_false (fun e => by have := hmem.1 e; rw [h'] at this; cases this)] at h; simp at h
   refine Tot.ite (fun hkn => ?_) fun hkn => ?_
   ·refine Tot.bindeq (idx_some hx) (Tot.out (Tot.ret ?_))
    have hkn : k < n + 1 := by simpa using hkn
    have hne : n ≠ k := fun e => by
     have := hxs.2 e
     rw [this, hp] at hpx; cases hpx
    have e : c.Servers.filter p = (c.Servers.take n).filter p ++ (c.Servers.drop n).filter p := by rw [← List.filter_append, List.take_append_drop]
    obtain ⟨hl2, hx2⟩ := List.getElem?_eq_some_iff.1 hx
    rw [e, List.find?_append]
    have h1 : ((c.Servers.take n).filter p).find? (fun y => decide (ixN c.Servers y > (k : Int))) = none := by
     rw [List.find?_eq_none]
     intro y hy
     obtain ⟨hy1, hy2⟩ := List.mem_filter.1 hy
     obtain ⟨m, hm⟩ := memR hy1
     rw [List.getElem?_take] at hm
     split at hm
     ·rename_i hmn
      have := hno m y hmn hm hy2
      rw [ix_at hn hm]; simp; omega
     ·cases hm
    rw [h1, List.drop_eq_getElem_cons hl2, hx2, List.filter_cons, if_pos hpx, List.find?_cons, ix_at hn hx]
    have : decide ((n : Int) > (k : Int)) = true := by simp; omega
    rw [this]; rfl
   ·have hkn : ¬ k < n + 1 := by simpa using hkn
    refine Tot.bindeq (idx_some hx) (next _ ?_ (fun _ => by omega))
    rw [take_snoc hx, filter_snoc, if_pos hpx]
    simp
 ·obtain rfl : n = c.Servers.length := by omega
  unfold ref27N22
  refine Tot.ncond (by simp) (Tot.out (Tot.ret ?_))
  rw [List.take_length]
  have h1 : (c.Servers.filter p).find? (fun y => decide (ixN c.Servers y > (k : Int))) = none := by
   rw [List.find?_eq_none]
   intro y hy
   obtain ⟨hy1, hy2⟩ := List.mem_filter.1 hy
   obtain ⟨m, hm⟩ := memR hy1
   have := hno m y (idx_len hm) hm hy2
   rw [ix_at hn hm]; simp; omega
  rw [h1]; rfl
end Go.Proofs
