/- Chains, plain: what is the same; what is made of any chunk. No condition. -/
import Derived.Test.YtaaaipgdnofafaaGreatXChainMakesP26r
namespace Go.Proofs
set_option linter.all false
open Go Go.Cat
set_option linter.all false
theorem p_head26 : law26_head = some true := le_law26_head 300 _ (by kernel_rfl)
theorem b_BytesR (a : List UInt8) (h : a.length ≤ 1000000) : ref04_Bytes a a = some true := by
 refine Tot.eq ?_
 unfold ref04_Bytes
 refine Tot.ncond (by simp) ?_
 unfold ref04_Bytes_L1
 refine Tot.each0 (l := a) (fun _ => True) (fun n x hlt hx _ => ?_) (fun _ => ?_) trivial
 ·unfold ref04_Bytes_B1
  exact Tot.cond (by simp; omega) (Tot.bindeq (idx_some hx) (Tot.bindeq (idx_some hx) (Tot.ncond (by simp) (Tot.chk (by unfold InI64; omega) (Tot.inl ⟨rfl, trivial⟩)))))
 ·unfold ref04_Bytes_B1 ref04_Bytes_J1
  exact Tot.ncond (by simp) (Tot.out (Tot.ret rfl))
theorem b_PagesR (a : List api_Page) (h : a.length ≤ 1000000) (hx : ∀ p, p ∈ a → p.Data.length ≤ 1000000) : ref04_Pages a a = some true := by
 refine Tot.eq ?_
 unfold ref04_Pages
 refine Tot.ncond (by simp) ?_
 unfold ref04_Pages_L1
 refine Tot.each0 (l := a) (fun _ => True) (fun n x hlt hx' _ => ?_) (fun _ => ?_) trivial
 ·unfold ref04_Pages_B1
  refine Tot.cond (by simp; omega) ?_
  simp only [idx_some hx', Option.bind_some, b_BytesR _ (hx x (List.mem_of_getElem? hx'))]
  simp only [Bool.not_true, Bool.false_eq_true, if_false, Option.bind_some, bne_self_eq_false, chk_pos (show InI64 ((n : Int) + 1) by unfold InI64; omega)]
  exact Tot.inl ⟨rfl, trivial⟩
 ·unfold ref04_Pages_B1 ref04_Pages_J1
  exact Tot.ncond (by simp) (Tot.out (Tot.ret rfl))
theorem b_SameR {d : api_Disk} {n : Nat} (h : Fit d n) (hn : n ≤ 1000) : ref04_Same d d = some true := by
 have h1 := h.t
 unfold ref04_Same
 rw [b_PagesR _ (by omega) (fun p hp => by have := (h.x p (List.mem_append_left _ hp)).1; omega), Option.bind_some, b_PagesR _ (by omega) (fun p hp => by have := (h.x p (List.mem_append_right _ hp)).1; omega), Option.bind_some]
 simp
theorem r_DisksR {D : List api_Disk} {n : Nat} (h : FitD D n) (hn : n ≤ 1000) : ref26_Disks D D = some true := by
 have hl := h.len
 refine Tot.eq ?_
 unfold ref26_Disks
 refine Tot.ncond (by simp) ?_
 unfold ref26_Disks_L1
 refine Tot.each0 (l := D) (fun _ => True) (fun k d hlt hd _ => ?_) (fun _ => ?_) trivial
 ·unfold ref26_Disks_B1
  exact Tot.cond (by simp; omega) (Tot.bindeq (idx_some hd) (Tot.bindeq (idx_some hd) (Tot.bindeq (b_SameR (h.d d (List.mem_of_getElem? hd)) hn) (Tot.ncond (by simp) (Tot.chk (by unfold InI64; omega) (Tot.inl ⟨rfl, trivial⟩))))))
 ·unfold ref26_Disks_B1 ref26_Disks_J1
  exact Tot.ncond (by simp) (Tot.out (Tot.ret rfl))
theorem r_SameR (c : api_Chain) (h : c.Servers.length ≤ 100000) : ref26_Same c c = some true := by
 obtain ⟨b, e, hb⟩ := r_SameC c c h
 rw [e, hb.2 rfl]
theorem r_IntsR (l : List Int) (h : l.length ≤ 100000) : ref26_Ints l l = some true := by
 obtain ⟨b, e, hb⟩ := r_IntsT l l h
 rw [e, hb.2 rfl]
theorem lay_there {d : api_Disk} {n : Nat} {c : api_Copy} (hf : Fit d n) (hn : n ≤ 400) (hd : d.Down = false) (hc : mayP c) : getN (layD d c) c.Id = (c, 0) := by
 obtain ⟨h1, h2, h3⟩ := put_view hf hd hc (page200 hc)
 have hz := put_fit hf h1
 have e : layD d c = syncD (putN d c).1 := by
  unfold layD syncN
  rw [if_neg (by simp [hz.2.2.1])]; rfl
 unfold getN
 rw [e, p_Get_there (h2.small (by omega)) hc rfl (by rw [h3, if_pos rfl])]; rfl
theorem layAll_at {C : api_Copy} : ∀ {l : List Int} {D : List api_Disk} {t : Int}, (∀ s, s ∈ l → isS D s) → isS D t → t ∉ l → atS (layAll C D l) t = atS D t
 | [], _, _, _, _, _ => rfl
 | s :: l, D, t, hs, ht, hn => by
  have e : layAll C D (s :: l) = layAll C (lay1 D s C) l := rfl
  simp only [List.mem_cons, not_or] at hn
  rw [e, layAll_at (fun t ht => isS_lay.2 (hs t (by simp [ht]))) (isS_lay.2 ht) hn.2, at_lay (hs s (by simp)) ht, if_neg hn.1]
theorem layAll_has {C : api_Copy} (hC : mayP C) : ∀ {l : List Int} {D : List api_Disk} {n : Nat}, FitD D n → n + l.length ≤ 400 → (∀ s, s ∈ l → isS D s) → ∀ t, t ∈ l → (atS D t).Down = false → getN (atS (layAll C D l) t) C.Id = (C, 0)
 | [], _, _, _, _, _, _, ht, _ => by cases ht
 | s :: l, D, n, hf, hn, hs, t, ht, hd => by
  have e : layAll C D (s :: l) = layAll C (lay1 D s C) l := rfl
  have hss := hs s (by simp)
  have htS := hs t ht
  have hf' := hf.lay hss C
  have hs' : ∀ t, t ∈ l → isS (lay1 D s C) t := fun t ht => isS_lay.2 (hs t (by simp [ht]))
  simp only [List.length_cons] at hn
  rw [e]
  by_cases hl : t ∈ l
  ·exact layAll_has hC hf' (by omega) hs' t hl (by rw [lay_DownS hss htS]; exact hd)
  ·have : t = s := by rcases List.mem_cons.1 ht with h | h; exact h; exact (hl h).elim
   subst this
   rw [layAll_at hs' (isS_lay.2 htS) hl, at_lay hss hss, if_pos rfl]
   exact lay_there (hf.d _ (at_mem hss)) (by omega) hd hC
theorem make_ok {id : Int} {l : List Int} {D : List api_Disk} {n : Nat} (hf : FitD D n) {x : List UInt8} (h : (makeC id l D x).2.2 = 0) : RightP ⟨id, 1, l⟩ D.length ∧ x.length ≤ 64 ∧ (∀ s, s ∈ l → (atS D s).Down = false) ∧ makeC id l D x = (⟨id, 1, l⟩, layAll (newC id 1 x) D l, 0) := by
 unfold makeC at h ⊢
 by_cases h1 : ¬ RightP ⟨id, 1, l⟩ D.length ∨ 64 < x.length
 ·rw [if_pos h1] at h; cases h
 ·rw [if_neg h1] at h ⊢
  by_cases h2 : (l.any fun s => (atS D s).Down) = true
  ·rw [if_pos h2] at h; cases h
  ·rw [if_neg h2]
   refine ⟨Classical.byContradiction fun h => h1 (.inl h), Nat.not_lt.1 fun h => h1 (.inr h), fun s hs => ?_, rfl⟩
   have := List.any_eq_false.1 (by simpa using h2) s hs
   simpa using this
theorem make_len (id : Int) (l : List Int) (D : List api_Disk) (x : List UInt8) : (makeC id l D x).1.Servers.length ≤ l.length ∧ ((makeC id l D x).2.1 = D ∨ (RightP ⟨id, 1, l⟩ D.length ∧ (makeC id l D x).2.1 = layAll (newC id 1 x) D l)) := by
 unfold makeC
 split
 ·exact ⟨by simp, .inl rfl⟩
 ·rename_i h
  split
  ·exact ⟨by simp, .inl rfl⟩
  ·exact ⟨Nat.le_refl _, .inr ⟨Classical.byContradiction fun h1 => h (.inl h1), rfl⟩⟩
theorem filter_all {l : List Int} {p : Int → Bool} (h : ∀ s, s ∈ l → p s = true) : l.filter p = l := List.filter_eq_self.2 h
theorem all_whole {c : api_Chain} {D : List api_Disk} {x : List UInt8} (h : ∀ s, s ∈ c.Servers → getN (atS D s) c.Id = (newC c.Id c.Ver x, 0)) (h0 : c.Servers ≠ []) : intactC c D = c.Servers ∧ readC c D = (x, 0) := by
 refine ⟨filter_all fun s hs => by unfold wholeB; rw [h s hs]; simp [newC], ?_⟩
 unfold readC
 rw [h _ (last_idx h0).2]
 simp [newC]
theorem l_ChainMakes (id : Int) (l : List Int) (down : List Bool) (data : List UInt8) (ver : Int) (_ : ok_i64 id) (_ : okL_encI l) (hd : okA_ok_bool_6 down) (_ : okL_cU8 data) (_ : ok_i64 ver) : law26_ChainMakes id l down data ver = some true := by
 refine Tot.eq ?_
 unfold law26_ChainMakes
 refine Tot.bindeq p_head26 (Tot.bind (R := Tells (9 < l.length ∨ 300 < data.length)) (Tot.bind (R := Tells (9 < l.length ∨ 300 < data.length)) (Tot.orI (by simp; omega) fun _ => Tot.dec (by omega)) fun b hb => Tot.ret hb) fun b hb => Tot.ite (fun _ => Tot.ret rfl) fun e => ?_)
 have hno : ¬ (9 < l.length ∨ 300 < data.length) := fun h => e (hb.2 h)
 have hdl := hd.1
 refine Tot.bind (R := fun D => FitD D 0 ∧ D.length = 6) ?_ fun D hD => ?_
 ·unfold law26_ChainMakes_L1
  refine Tot.loop (fun s : Int × List api_Disk => ∃ k : Nat, s.1 = k ∧ k ≤ 6 ∧ s.2.length = k ∧ ∀ d, d ∈ s.2 → Fit d 0) (fun s => 7 - s.1.toNat) ?_ _ ⟨0, rfl, by omega, rfl, fun d hd => by cases hd⟩
  rintro ⟨i, a⟩ ⟨k, rfl, hk, hl, ha⟩
  dsimp only at hl ha
  unfold law26_ChainMakes_B1
  rcases Nat.lt_or_ge k 6 with hlt | hge
  ·have hx : down[k]? = some down[k] := List.getElem?_eq_getElem (by omega)
   refine Tot.cond (by simp; omega) (Tot.bindeq (idx_some hx) (Tot.chk (by dsimp only; omega) (Tot.chk (by simp only [List.length_cons, List.length_nil]; omega) (Tot.chk (by unfold InI64; dsimp only; omega) (Tot.inl ⟨⟨k + 1, rfl, hlt, by simp [hl], fun d hd => ?_⟩, by show 7 - ((k : Int) + 1).toNat < 7 - (k : Int).toNat; omega⟩)))))
   rcases List.mem_append.1 hd with hd | hd
   ·exact ha d hd
   ·rw [List.mem_singleton.1 hd]
    exact ⟨by simp, fun p hp => by simp at hp, .nil⟩
  ·exact Tot.ncond (by simp; omega) (Tot.out (Tot.ret ⟨⟨by dsimp only; omega, ha⟩, by dsimp only; omega⟩))
 ·obtain ⟨hf, hl6⟩ := hD
  have hm := p_MakeC hf (by omega) id (l := l) (by omega) (x := data) (by omega)
  have hr := r_MakeC hf (by omega) id (l := l) (by omega) (x := data) (by omega)
  obtain ⟨hml, hmd⟩ := make_len id l D data
  have hfd : FitD (makeC id l D data).2.1 10 := by
   rcases hmd with h | ⟨h1, h2⟩
   ·rw [h]; exact hf.mono (by omega)
   ·rw [h2]; exact (layAll_fit hf fun s hs => h1.1.1 s hs).mono (by show 0 + l.length ≤ 10; omega)
  refine Tot.bindeq hm (Tot.bindeq hr (Tot.bindeq (r_SameR _ (by omega)) (Tot.bindeq (r_DisksR hfd (by omega)) ?_)))
  obtain ⟨b1, e1, hb1⟩ := p_Right ⟨id, ver, l⟩ D (by dsimp only; omega)
  obtain ⟨b2, e2, hb2⟩ := r_Right ⟨id, ver, l⟩ D (by dsimp only; omega)
  have e3 : b1 = b2 := by
   unfold Tells at hb1 hb2
   cases b1 <;> cases b2 <;> simp_all
  subst e3
  simp only [e1, e2, Bool.not_true, Bool.false_eq_true, if_false, bne_self_eq_false, Option.bind_some, beq_self_eq_true]
  refine Tot.ite (fun _ => Tot.ret rfl) fun e => ?_
  have hz : (makeC id l D data).2.2 = 0 := by simpa using e
  obtain ⟨h1, h2, h3, h4⟩ := make_ok hf hz
  rw [h4]
  have hch : ChD ⟨id, 1, l⟩ (layAll (newC id 1 data) D l) 10 := ⟨by have := hfd; rw [h4] at this; exact this, fun s hs => layAll_isS.2 (h1.1.1 s hs), by dsimp only; omega⟩
  have h0 : l ≠ [] := fun e => by have := h1.2.1.2; rw [e] at this; simp at this
  have hC : mayP (newC id 1 data) := newC_may h1.2.1.1.1.1 (by omega) h2
  obtain ⟨ha, hb⟩ := all_whole (c := ⟨id, 1, l⟩) (D := layAll (newC id 1 data) D l) (x := data) (fun s hs => layAll_has hC hf (by show 0 + l.length ≤ 400; omega) (fun s hs => h1.1.1 s hs) s hs (h3 s hs)) h0
  refine Tot.bindeq (p_ReadC hch (by omega) h0) ?_
  rw [hb]
  refine Tot.bindeq (b_BytesR _ (by show data.length ≤ 1000000; omega)) (Tot.bindeq (p_IntactC hch (by omega)) ?_)
  rw [ha]
  refine Tot.bindeq (r_IntsR _ (by dsimp only; omega)) ?_
  exact Tot.ret rfl
end Go.Proofs
