/- Scrubbing, plain: each server once; the order of what is planned. No condition. -/
import Derived.Test.YtpohijpdclienaaGreatXScrubAllP27o
namespace Go.Proofs
set_option linter.all false
open Go Go.Cat
set_option linter.all false
theorem t_start (D : List api_Disk) (l : List api_Chain) : Tot ((law27_Great D l).bind fun x2 => (if x2 then some true else (ref27_Right l).bind fun x3 => some ((!x3)))) (fun b => b = false → GreatD D ∧ l.length ≤ 12 ∧ RightL l) := by
 refine Tot.bind (t_Great27 D l) fun b hb => Tot.ite (fun h => Tot.ret fun e => by cases e) fun h => ?_
 obtain ⟨h1, h2, _⟩ := hb (by simpa using h)
 exact Tot.bind (t_RightL l (by omega)) fun r hr => Tot.ret fun e => ⟨h1, h2, hr.1 (by simpa using e)⟩
theorem RightL.oks {l : List api_Chain} (h : RightL l) : ∀ c, c ∈ l → ChainOk c := fun c hc => (h.mem hc).ok
theorem filter_at {α : Type} {p : α → Bool} {l : List α} {n : Nat} {x : α} (hx : l[n]? = some x) (hp : p x = true) : (l.filter p)[((l.take n).filter p).length]? = some x := by
 have e : l.filter p = (l.take n).filter p ++ (l.drop n).filter p := by rw [← List.filter_append, List.take_append_drop]
 obtain ⟨h, rfl⟩ := List.getElem?_eq_some_iff.1 hx
 rw [e, List.getElem?_append_right (Nat.le_refl _), Nat.sub_self, List.drop_eq_getElem_cons h, List.filter_cons, if_pos hp]; rfl
theorem idx_len {α : Type} {l : List α} {n : Nat} {x : α} (h : l[n]? = some x) : n < l.length := (List.getElem?_eq_some_iff.1 h).1
theorem l_ScrubAll (D : List api_Disk) (l : List api_Chain) (at_ : UInt8) : law27_ScrubAll D l at_ = some true := by
 refine Tot.eq ?_
 unfold law27_ScrubAll
 refine Tot.bindeq p_head27 (Tot.bind (R := fun b => b = false → GreatD D ∧ l.length ≤ 12 ∧ RightL l ∧ l ≠ []) ?_ fun b hb => Tot.ite (fun _ => Tot.ret rfl) fun h => ?_)
 ·have := t_start D l
  refine Tot.mono (Q := fun b => b = false → GreatD D ∧ l.length ≤ 12 ∧ RightL l ∧ l ≠ []) ?_ fun _ h => h
  rw [show (((law27_Great D l).bind fun x2 => (if x2 then some true else (ref27_Right l).bind fun x3 => some ((!x3))).bind fun c1 => (if c1 then some true else some (((l.length : Int) == 0))).bind fun c2 => some c2)) = ((law27_Great D l).bind fun x2 => (if x2 then some true else (ref27_Right l).bind fun x3 => some ((!x3)))).bind fun c1 => (if c1 then some true else some (((l.length : Int) == 0))).bind fun c2 => some c2 by rw [Option.bind_assoc]]
  refine Tot.bind this fun b hb => ?_
  refine Tot.bind (R := fun b' => b' = false → b = false ∧ l ≠ []) (Tot.ite (fun _ => Tot.ret fun e => by cases e) fun h => Tot.ret fun e => ⟨by simpa using h, fun e' => by rw [e'] at e; simp at e⟩) fun b' hb' => Tot.ret fun e => ?_
  obtain ⟨h1, h2⟩ := hb' e
  obtain ⟨h3, h4, h5⟩ := hb h1
  exact ⟨h3, h4, h5, h2⟩
 obtain ⟨hG, hl, hR, hne⟩ := hb (by simpa using h)
 have hpos : 0 < l.length := List.length_pos_iff.2 hne
 have hD := hG.small
 refine Tot.chk (by omega) (Tot.bind (Tot.idx (Q := fun c => c ∈ l) (Int.tmod_nonneg _ (by omega)) (Int.tmod_lt_of_pos _ (by omega)) fun c hc => List.mem_of_getElem? hc) fun c hc => ?_)
 have hco := hR.oks c hc
 have hlen := hco.n
 refine Tot.bindeq (p_Intact hD hco) (Tot.bindeq (p_Look hD hco) ?_)
 unfold law27_ScrubAll_L1
 have hlk : (lookN D c).length = (c.Servers.filter fun s => standsN D c s != 0).length := by unfold lookN; rw [List.length_map]
 refine Tot.loop (fun s : Int × Int × Int => ∃ n : Nat, n ≤ c.Servers.length ∧ s = ((((c.Servers.take n).filter fun s => standsN D c s == 0).length : Int), (((c.Servers.take n).filter fun s => standsN D c s != 0).length : Int), (n : Int))) (fun s => c.Servers.length + 1 - s.2.2.toNat) ?_ (0, 0, 0) ⟨0, Nat.zero_le _, rfl⟩
 rintro _ ⟨n, hn, rfl⟩
 unfold law27_ScrubAll_B1
 dsimp only
 have hf1 := List.length_filter_le (fun s => standsN D c s == 0) (c.Servers.take n)
 have hf2 := List.length_filter_le (fun s => standsN D c s != 0) (c.Servers.take n)
 have ht := List.length_take_le n c.Servers
 rcases Nat.lt_or_ge n c.Servers.length with hlt | hge
 ·have hx : c.Servers[n]? = some c.Servers[n] := List.getElem?_eq_getElem hlt
  have h0 := hco.p _ (List.getElem_mem hlt)
  generalize c.Servers[n] = x at hx h0
  refine Tot.cond (by simp; omega) (Tot.bindeq (idx_some hx) ?_)
  have step : ∀ (i k : Int), i = (((c.Servers.take (n + 1)).filter fun s => standsN D c s == 0).length : Int) → k = (((c.Servers.take (n + 1)).filter fun s => standsN D c s != 0).length : Int) →
    Tot (law27_ScrubAll_J2 ((((c.Servers.take n).filter fun s => standsN D c s == 0).length : Int), (((c.Servers.take n).filter fun s => standsN D c s != 0).length : Int), (n : Int)) (i, k)) (RdP (fun s' => (∃ n : Nat, n ≤ c.Servers.length ∧ s' = ((((c.Servers.take n).filter fun s => standsN D c s == 0).length : Int), (((c.Servers.take n).filter fun s => standsN D c s != 0).length : Int), (n : Int))) ∧ c.Servers.length + 1 - s'.2.2.toNat < c.Servers.length + 1 - (n : Int).toNat) fun r => r = true) := fun i k hi hk => by
   unfold law27_ScrubAll_J2
   refine Tot.chk (by unfold InI64; dsimp only; omega) ⟨_, rfl, ⟨n + 1, hlt, ?_⟩, ?_⟩
   ·rw [hi, hk]; rfl
   ·dsimp only; omega
  by_cases hs : standsN D c x = 0
  ·have hget := filter_at (p := fun s => standsN D c s == 0) hx (by simp [hs])
   obtain ⟨d, hd, hd1, hd2, hd3⟩ := stands_intact.1 hs
   have hds := hD.2 d (List.mem_of_getElem? hd)
   have hdl := idx_len hd
   refine Tot.bb (c := true) (by
    have hgl := idx_len hget
    rw [if_pos (by simpa [intactN] using hgl)]
    show (idx (intactN D c) _).bind _ = _
    rw [show idx (intactN D c) _ = _ from idx_some hget]; simp) (Tot.cond rfl (Tot.chk (by unfold InI64; omega) ?_))
   refine Tot.bb (c := false) (by rw [if_neg (by simp; omega)]; simp; omega) (Tot.ncond (by simp) ?_)
   refine Tot.bindeq (a := d) (by unfold idx; rw [if_pos h0, hd]) (Tot.bindeq (p_GetN hds c.Id) ?_)
   refine Tot.bb (c := false) (by rw [if_neg (by simp [hd2])]; simp [hd3]) (Tot.ncond (by simp) ?_)
   refine step _ _ ?_ ?_
   ·rw [take_snoc hx, filter_snoc, if_pos (by simp [hs])]; simp
   ·rw [take_snoc hx, filter_snoc, if_neg (by simp [hs])]
  ·have hget := filter_at (p := fun s => standsN D c s != 0) hx (by simp [hs])
   have hgetL : (lookN D c)[((c.Servers.take n).filter fun s => standsN D c s != 0).length]? = some (findN D c x) := by unfold lookN; rw [List.getElem?_map, hget]; rfl
   have hgl := idx_len hgetL
   refine Tot.bb (c := false) (by
    by_cases hi : ((c.Servers.take n).filter fun s => standsN D c s == 0).length < (intactN D c).length
    ·rw [if_pos (by simpa using hi)]
     have hy := List.getElem?_eq_getElem hi
     have hm := (mem_intact.1 (List.getElem_mem hi)).2
     generalize (intactN D c)[((c.Servers.take n).filter fun s => standsN D c s == 0).length] = y at hy hm
     rw [idx_some hy]
     simp only [Option.bind_some, Option.some.injEq, beq_eq_false_iff_ne]
     intro e; rw [e] at hm; exact hs hm
    ·rw [if_neg (by simpa using hi)]) (Tot.ncond (by simp) ?_)
   refine Tot.bb (c := true) (by rw [if_pos (by simpa using hgl), idx_some hgetL]; simp [findN]) (Tot.cond rfl (Tot.bindeq (idx_some hgetL) (Tot.chk (by unfold InI64; omega) ?_)))
   have hr := stands_range D c x
   have haway : (if decide (x ≥ (D.length : Int)) = true then some true else (idx D x).bind fun x13 => some x13.Down) = some (decide (standsN D c x = 1)) := by
    rcases Nat.lt_or_ge x.toNat D.length with h1 | h1
    ·have hd : D[x.toNat]? = some D[x.toNat] := List.getElem?_eq_getElem h1
     rw [if_neg (by simp; omega)]
     have : idx D x = some D[x.toNat] := by unfold idx; rw [if_pos h0, hd]
     rw [this, Option.bind_some]
     refine congrArg some ?_
     rw [Bool.eq_iff_iff, decide_eq_true_iff, stands_away, hd]; simp
    ·rw [if_pos (by simp; omega)]
     refine congrArg some (Eq.symm (decide_eq_true ?_))
     exact stands_away.2 (.inl (List.getElem?_eq_none h1))
   refine Tot.bind (R := (· = false)) ?_ fun b hb => ?_
   ·have h0' : ((findN D c x).Id != c.Id) = false := by simp [findN]
    have h1' : decide ((findN D c x).What < 1) = false := decide_eq_false (by show ¬ standsN D c x < 1; omega)
    have h5' : decide ((findN D c x).What > 5) = false := decide_eq_false (by show ¬ standsN D c x > 5; omega)
    have h2' : ((findN D c x).What == 1) = decide (standsN D c x = 1) := rfl
    simp only [h0', h1', h5', h2', Bool.false_eq_true, if_false, Option.bind_some, haway]
    exact Tot.ret (by simp)
   ·subst hb
    refine Tot.ncond (by simp) (Tot.ite (fun h1 => step _ _ ?_ ?_) fun h1 => ?_)
    ·rw [take_snoc hx, filter_snoc, if_neg (by simp [hs])]
    ·rw [take_snoc hx, filter_snoc, if_pos (by simp [hs])]; simp
    ·have h1 : standsN D c x ≠ 1 := by simpa [findN] using h1
     have hdl : x.toNat < D.length := Nat.lt_of_not_le fun h2 => h1 (stands_away.2 (.inl (List.getElem?_eq_none h2)))
     have hd : D[x.toNat]? = some D[x.toNat] := List.getElem?_eq_getElem hdl
     have hds := hD.2 _ (List.getElem_mem hdl)
     have hst : standsN D c x = standD D[x.toNat] c := by unfold standsN; rw [hd]
     generalize D[x.toNat] = d at hd hds hst
     refine Tot.bindeq (a := d) (by unfold idx; rw [if_pos h0, hd]) (Tot.bindeq (p_GetN hds c.Id) ?_)
     refine Tot.bind (R := (· = false)) ?_ fun b hb => ?_
     ·rw [hst] at h1 hs
      have hup : d.Down = false := by
       cases h : d.Down with
       | false => rfl
       | true => exact absurd (stand_away.2 h) h1
      have key : (getN d c.Id).2 = 0 → (standD d c = 4 ∧ (getN d c.Id).1.Ver < c.Ver) ∨ (standD d c = 5 ∧ (getN d c.Id).1.Ver > c.Ver) := fun h => by
       unfold standD at hs ⊢
       rw [if_neg (by simp [hup]), if_neg (by omega), if_neg (by omega)] at hs ⊢
       by_cases h3 : (getN d c.Id).1.Ver < c.Ver
       ·rw [if_pos h3]; exact .inl ⟨rfl, h3⟩
       ·rw [if_neg h3] at hs ⊢
        by_cases h4 : (getN d c.Id).1.Ver > c.Ver
        ·rw [if_pos h4]; exact .inr ⟨rfl, h4⟩
        ·rw [if_neg h4] at hs; omega
      have key' : (getN d c.Id).2 ≠ 0 → standD d c ≠ 4 ∧ standD d c ≠ 5 := fun h => by
       unfold standD
       rw [if_neg (by simp [hup])]
       by_cases h3 : (getN d c.Id).2 = 41
       ·rw [if_pos h3]; omega
       ·rw [if_neg h3, if_pos h]; omega
      simp only [findN, hst]
      by_cases h : (getN d c.Id).2 = 0
      ·rcases key h with ⟨h2, h3⟩ | ⟨h2, h3⟩
       ·simp [h, h2, h3, Tot]
       ·simp [h, h2, h3, Tot]
      ·obtain ⟨h2, h3⟩ := key' h
       simp [h, h2, h3, Tot]
     ·subst hb
      refine Tot.ncond (by simp) (step _ _ ?_ ?_)
      ·rw [take_snoc hx, filter_snoc, if_neg (by simp [hs])]
      ·rw [take_snoc hx, filter_snoc, if_pos (by simp [hs])]; simp
 ·obtain rfl : n = c.Servers.length := by omega
  refine Tot.ncond (by simp) (Tot.out ?_)
  unfold law27_ScrubAll_J1
  rw [List.take_length, hlk]
  simp [intactN, Tot]
end Go.Proofs
