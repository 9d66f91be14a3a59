/- Disks, plain: a bit that is turned, the law. No condition. -/
import Derived.Test.YtlhgbjgfnihijaaXDiskTellsP04g
namespace Go.Proofs
set_option linter.all false
open Go Go.Cat

theorem t_L2R (d : api_Disk) (a : Int) (h : d.Loose.length ≤ 1000) : Tot (law04_DiskRot_L2 d a (false, 0)) (Tells (∃ p, p ∈ d.Loose ∧ p.At = a)) := by
  unfold law04_DiskRot_L2
  refine Tot.loop (fun s : Bool × Int => ∃ n : Nat, s.2 = n ∧ n ≤ d.Loose.length ∧ (s.1 = true ↔ ∃ (j : Nat) (p : api_Page), j < n ∧ d.Loose[j]? = some p ∧ p.At = a)) (fun s => ((d.Loose.length : Int) - s.2).toNat) ?_ _ ⟨0, rfl, Nat.zero_le _, ⟨fun e => (by cases e), fun ⟨j, _, hj, _⟩ => absurd hj (Nat.not_lt_zero _)⟩⟩
  rintro ⟨b, s⟩ ⟨n, e, hn, hb⟩
  dsimp only at e hb
  subst e
  unfold law04_DiskRot_B2
  refine Tot.ite (fun hlt => ?_) (fun hge => Tot.out (Tot.ret (hb.trans ?_)))
  · have hlt : n < d.Loose.length := by simpa using hlt
    have hx := getLt hlt
    generalize d.Loose[n] = x at hx
    refine Tot.bind (R := Tells (∃ (j : Nat) (p : api_Page), j < n + 1 ∧ d.Loose[j]? = some p ∧ p.At = a)) (Tot.bind (R := Tells (∃ (j : Nat) (p : api_Page), j < n + 1 ∧ d.Loose[j]? = some p ∧ p.At = a)) (Tot.ite (fun hb1 => Tot.ret ?_) fun hb0 => Tot.bindeq (idx_some hx) (Tot.ret ?_)) fun _ h => Tot.ret h) fun v hv => Tot.chk (by dsimp only; unfold InI64; omega) (Tot.inl ⟨⟨n + 1, by simp, by omega, hv⟩, by dsimp only; omega⟩)
    · obtain ⟨j, p, hj, hp, ha⟩ := hb.1 hb1
      exact Tells.yes ⟨j, p, by omega, hp, ha⟩
    · refine ⟨fun e => ⟨n, x, by omega, hx, by simpa using e⟩, fun ⟨j, p, hj, hp, ha⟩ => ?_⟩
      rcases Nat.lt_or_ge j n with h1 | h1
      · exact absurd (hb.2 ⟨j, p, h1, hp, ha⟩) hb0
      · have : j = n := by omega
        subst this
        rw [hx] at hp; cases hp; simpa using ha
  · have hge : ¬ n < d.Loose.length := by simpa using hge
    refine ⟨fun ⟨j, p, _, hp, ha⟩ => ⟨p, (getR hp).2, ha⟩, fun ⟨p, hp, ha⟩ => ?_⟩
    obtain ⟨j, hj⟩ := memR hp
    exact ⟨j, p, by have := (getR hj).1; omega, hj, ha⟩

theorem t_J1R (d : api_Disk) (a bit : Int) (x3 : List UInt8 × Int) (v : Int) (h : d.Loose.length ≤ 1000) (hx : x3.1.length ≤ 1000)
    (hC : ((((∃ p, p ∈ d.Loose ∧ p.At = a) ∨ x3.2 ≠ 0) ∨ bit < 0) ∨ bit ≥ 8 * (x3.1.length : Int)) → v = 0) (hN : ¬ ((((∃ p, p ∈ d.Loose ∧ p.At = a) ∨ x3.2 ≠ 0) ∨ bit < 0) ∨ bit ≥ 8 * (x3.1.length : Int)) → v = 1) :
    Tot (law04_DiskRot_J1 d a x3 bit true v) (· = true) := by
  unfold law04_DiskRot_J1
  refine Tot.bind (t_L2R d a h) fun v5 h5 => Tot.bind (R := Tells ((((∃ p, p ∈ d.Loose ∧ p.At = a) ∨ x3.2 ≠ 0) ∨ bit < 0) ∨ bit ≥ 8 * (x3.1.length : Int))) ?_ fun v7 h7 => Tot.ite (fun ht => ?_) fun hf => ?_
  · exact Tot.bind (Tot.orI (Q := x3.2 ≠ 0) h5 fun _ => Tot.ret (by unfold Tells; simp)) fun _ h8 => Tot.bind (Tot.orI (Q := bit < 0) h8 fun _ => Tot.ret (by unfold Tells; simp)) fun _ h9 => Tot.bind (Tot.orI (Q := bit ≥ 8 * (x3.1.length : Int)) h9 fun _ => Tot.chk (by unfold InI64; omega) (Tot.ret (by unfold Tells; simp))) fun _ h => Tot.ret h
  · rw [hC (h7.1 ht)]; exact Tot.ret rfl
  · rw [hN fun hc => hf (h7.2 hc)]; exact Tot.ret rfl

theorem t_L1R (d : api_Disk) (a bit : Int) (x3 x5 : List UInt8 × Int) (hl : x3.1.length = x5.1.length) (hx : x3.1.length ≤ 1000)
    (hd : ∀ (j : Nat) x y, x3.1[j]? = some x → x5.1[j]? = some y → x ≠ y → quoK .i64 bit 8 = (j : Int))
    (h0 : (∀ (j : Nat) x y, x3.1[j]? = some x → x5.1[j]? = some y → x = y) → Tot (law04_DiskRot_J1 d a x3 bit true 0) (· = true))
    (h1 : (∃ (j : Nat) (x y : UInt8), x3.1[j]? = some x ∧ x5.1[j]? = some y ∧ x ≠ y) → Tot (law04_DiskRot_J1 d a x3 bit true 1) (· = true)) :
    Tot (law04_DiskRot_L1 x3 x5 bit d a true (0, 0)) (· = true) := by
  unfold law04_DiskRot_L1
  refine Tot.loop (fun s : Int × Int => ∃ n : Nat, s.2 = n ∧ n ≤ x3.1.length ∧ ((s.1 = 0 ∧ ∀ (j : Nat) x y, j < n → x3.1[j]? = some x → x5.1[j]? = some y → x = y) ∨ (s.1 = 1 ∧ ∃ (j : Nat) (x y : UInt8), j < n ∧ x3.1[j]? = some x ∧ x5.1[j]? = some y ∧ x ≠ y))) (fun s => ((x3.1.length : Int) - s.2).toNat) ?_ _ ⟨0, rfl, Nat.zero_le _, .inl ⟨rfl, fun j _ _ hj => absurd hj (Nat.not_lt_zero _)⟩⟩
  rintro ⟨c, s⟩ ⟨n, e, hn, hb⟩
  dsimp only at e hb
  subst e
  unfold law04_DiskRot_B1 law04_DiskRot_J2
  refine Tot.ite (fun hlt => ?_) (fun hge => Tot.out ?_)
  · have hlt : n < x3.1.length := by simpa using hlt
    have ex := getLt hlt
    have ey := getLt (l := x5.1) (n := n) (by omega)
    generalize x3.1[n] = x at ex
    generalize x5.1[n] = y at ey
    refine Tot.bindeq (idx_some ex) (Tot.bindeq (idx_some ey) (Tot.ite (fun hne => ?_) fun heq => ?_))
    · have hne : x ≠ y := fun e => by subst e; simp at hne
      have hq := hd n x y ex ey hne
      have hc : c = 0 := by
        rcases hb with ⟨h, _⟩ | ⟨_, j, u, v, hj, hu, hv, huv⟩
        · exact h
        · have := hd j u v hu hv huv; omega
      subst hc
      exact Tot.chk (by dsimp only; unfold InI64; omega) (Tot.ncond (by rw [hq]; simp) (Tot.chk (by dsimp only; unfold InI64; omega) (Tot.inl ⟨⟨n + 1, by simp, by omega, .inr ⟨by simp, n, x, y, by omega, ex, ey, hne⟩⟩, by dsimp only; omega⟩)))
    · have heq : x = y := by
        have : (x.toNat : Int) = (y.toNat : Int) := by simpa using heq
        exact UInt8.toNat_inj.1 (by omega)
      refine Tot.chk (by dsimp only; unfold InI64; omega) (Tot.inl ⟨⟨n + 1, by simp, by omega, ?_⟩, by dsimp only; omega⟩)
      rcases hb with ⟨h, hs⟩ | ⟨h, j, u, v, hj, hu, hv, huv⟩
      · refine .inl ⟨h, fun j u v hj hu hv => ?_⟩
        rcases Nat.lt_or_ge j n with h2 | h2
        · exact hs j u v h2 hu hv
        · have : j = n := by omega
          subst this
          rw [ex] at hu; rw [ey] at hv; cases hu; cases hv; exact heq
      · exact .inr ⟨h, j, u, v, by omega, hu, hv, huv⟩
  · have hge : ¬ n < x3.1.length := by simpa using hge
    rcases hb with ⟨h, hs⟩ | ⟨h, j, u, v, hj, hu, hv, huv⟩
    · dsimp only; rw [h]; exact h0 fun j x y hx hy => hs j x y (by have := (getR hx).1; omega) hx hy
    · dsimp only; rw [h]; exact h1 ⟨j, u, v, hu, hv, huv⟩

theorem readN_eq {d : api_Disk} (a : Int) (h : d.Down = false) : readN d a = if mayN a 0 then (match lastAt (d.Synced ++ d.Loose) a with | none => (([], 41) : List UInt8 × Int) | some p => (p.Data, 0)) else ([], 1) := by
  unfold readN
  rw [if_neg (by rw [h]; exact Bool.false_ne_true)]; rfl

theorem rot_rest (d e : api_Disk) (a bit o : Int) (hf : Few d 60) (he : Few e 60) (hr : disk_Rot e a bit = some d)
    (f1 : (readN d a).2 = (readN e a).2) (f2 : (readN d a).1.length = (readN e a).1.length) (f3 : (readN d o).2 = (readN e o).2) (f3' : o ≠ a → (readN d o).1 = (readN e o).1)
    (f4 : ∀ (j : Nat) x y, (readN d a).1[j]? = some x → (readN e a).1[j]? = some y → x ≠ y → quoK .i64 bit 8 = (j : Int))
    (f5 : (∀ (j : Nat) x y, (readN d a).1[j]? = some x → (readN e a).1[j]? = some y → x = y) → (((∃ p, p ∈ d.Loose ∧ p.At = a) ∨ (readN d a).2 ≠ 0) ∨ bit < 0) ∨ bit ≥ 8 * ((readN d a).1.length : Int))
    (f6 : (∃ (j : Nat) (x y : UInt8), (readN d a).1[j]? = some x ∧ (readN e a).1[j]? = some y ∧ x ≠ y) → ¬ ((((∃ p, p ∈ d.Loose ∧ p.At = a) ∨ (readN d a).2 ≠ 0) ∨ bit < 0) ∨ bit ≥ 8 * ((readN d a).1.length : Int))) :
    Tot ((disk_Read e a).bind fun x5 => (disk_Rot e a bit).bind fun x6 => (ref04_Same x6 d).bind fun x7 => (disk_Read d o).bind fun x8 => (disk_Read e o).bind fun x9 => (ref04_Bytes x8.1 x9.1).bind fun x10 => ((if (!x7) then some true else some (((readN d a).2 != x5.2))).bind fun c2 => (if c2 then some true else some ((x8.2 != x9.2))).bind fun c3 => (if c3 then some true else some ((((readN d a).1.length : Int) != (x5.1.length : Int)))).bind fun c4 => (if c4 then some true else (if (o != a) then some ((!x10)) else some false).bind fun c5 => some c5).bind fun c6 => some c6).bind fun v2 => if v2 then some false else law04_DiskRot_L1 (readN d a) x5 bit d a true ((0, 0))) (· = true) := by
  have sd := (hf.mono (m := 500) (by omega)).small
  have se := (he.mono (m := 500) (by omega)).small
  have hla := readN_len sd a
  have hlo := readN_len sd o
  refine Tot.bindeq (p_Read _ _ se) (Tot.bindeq hr (Tot.bindeq (same04 sd rfl) (Tot.bindeq (p_Read _ _ sd) (Tot.bindeq (p_Read _ _ se) (Tot.bind (p_RBytes _ _ (by omega)) fun x10 h10 => Tot.bind (R := (· = false)) ?_ fun v hv => ?_)))))
  · refine Tot.bind (R := (· = false)) (Tot.ncond (by decide) (Tot.ret (by rw [f1]; simp))) fun c2 e2 => ?_
    subst e2
    refine Tot.bind (R := (· = false)) (Tot.ncond (by decide) (Tot.ret (by rw [f3]; simp))) fun c3 e3 => ?_
    subst e3
    refine Tot.bind (R := (· = false)) (Tot.ncond (by decide) (Tot.ret (by rw [f2]; simp))) fun c4 e4 => ?_
    subst e4
    refine Tot.bind (R := (· = false)) (Tot.ncond (by decide) (Tot.bind (R := (· = false)) (Tot.ite (fun hoa => Tot.ret ?_) fun _ => Tot.ret rfl) fun _ h => Tot.ret h)) fun _ h => Tot.ret h
    rw [h10.2 (f3' (by simpa using hoa))]; rfl
  · subst hv
    refine Tot.ncond (by decide) (t_L1R d a bit _ _ f2 hla f4 (fun h => t_J1R d a bit _ 0 (by have := hf.l; omega) hla (fun _ => rfl) fun hc => absurd (f5 h) hc) fun h => t_J1R d a bit _ 1 (by have := hf.l; omega) hla (fun hc => absurd hc (f6 h)) fun _ => rfl)

theorem l_DiskRot (p_d : api_Disk) (p_at : Int) (p_bit : Int) (p_other : Int) : law04_DiskRot p_d p_at p_bit p_other = some true := by
  refine Tot.eq ?_
  unfold law04_DiskRot
  refine Tot.bindeq p_head04 (Tot.bind (t_Fits2 p_d) fun x2 h2 => Tot.bind (R := fun v => v = false → x2 = true ∧ p_d.Down = false) (Tot.bind (R := fun v => v = false → x2 = true ∧ p_d.Down = false) (Tot.ite (fun _ => Tot.ret fun e => by cases e) fun hn => Tot.ret fun e => ⟨by simpa using hn, e⟩) fun _ h => Tot.ret h) fun v hv => Tot.ite (fun _ => Tot.ret rfl) fun hn => ?_)
  obtain ⟨e2, hd⟩ := hv (by simpa using hn)
  obtain ⟨hf, hA⟩ := h2 e2
  have sd := (hf.mono (m := 500) (by omega)).small
  have hdl : ∀ p, p ∈ p_d.Synced → p.Data.length ≤ 1000 := fun p hp => sd.2.2 p (List.mem_append_left _ hp)
  refine Tot.bindeq (p_Read _ _ sd) ?_
  by_cases hch : ∃ l1 p l2, p_d.Synced = l1 ++ p :: l2 ∧ p.At = p_at ∧ (∀ x, x ∈ l1 → x.At ≠ p_at) ∧ (0 ≤ p_bit ∧ p_bit < 8 * (p.Data.length : Int))
  · obtain ⟨l1, p, l2, eS, hp, hl, h0, h1⟩ := hch
    obtain ⟨S, L, D⟩ := p_d
    dsimp only at eS hd
    subst eS hd
    have hpl := hdl p (by simp)
    have hSl : (l1 ++ p :: l2).length ≤ 60 := hf.s
    have hK : p_bit.toNat / 8 < p.Data.length := by omega
    have hx := getLt hK
    generalize p.Data[p_bit.toNat / 8] = x at hx
    have gp : goodP p := hf.gs p (by simp)
    generalize hq : (⟨p.At, p.Data.set (p_bit.toNat / 8) (x ^^^ msk p_bit)⟩ : api_Page) = q
    have hqa : q.At = p_at := by rw [← hq]; exact hp
    have hqd : q.Data = p.Data.set (p_bit.toNat / 8) (x ^^^ msk p_bit) := by rw [← hq]
    have hql : q.Data.length = p.Data.length := by rw [hqd, List.length_set]
    have r1 := rot_ok (L := L) (b := false) (l2 := l2) hp hl (by omega) hpl h0 h1 hx
    rw [hq] at r1
    have hx2 : q.Data[p_bit.toNat / 8]? = some (x ^^^ msk p_bit) := by rw [hqd, List.getElem?_set_self hK]
    have r2 := rot_ok (L := L) (b := false) (p := q) (l1 := l1) (l2 := l2) hqa hl (by simp only [List.length_append, List.length_cons] at hSl ⊢; omega) (by omega) h0 (by rw [hql]; exact h1) hx2
    have eq2 : (⟨q.At, q.Data.set (p_bit.toNat / 8) ((x ^^^ msk p_bit) ^^^ msk p_bit)⟩ : api_Page) = p := by
      rw [xor_back, hqd, List.set_set]
      obtain ⟨pa, pd⟩ := p
      have : pd.set (p_bit.toNat / 8) x = pd := by
        have e := (List.getElem?_eq_some_iff.1 hx)
        obtain ⟨hk, e⟩ := e
        dsimp only at e
        rw [← e, List.set_getElem_self]
      dsimp only at this ⊢
      rw [this, hqa]
      dsimp only at hp
      rw [hp]
    rw [eq2] at r2
    have gq : goodP q := ⟨by rw [hqa, ← hp]; exact gp.1, by rw [hql]; exact gp.2⟩
    have he : Few ⟨l1 ++ q :: l2, L, false⟩ 60 := ⟨by simpa using hSl, hf.l, fun r hr => by
      rcases List.mem_append.1 hr with h | h
      · exact hf.gs r (List.mem_append_left _ h)
      · rcases List.mem_cons.1 h with e | h
        · rw [e]; exact gq
        · exact hf.gs r (List.mem_append_right _ (List.mem_cons_of_mem _ h)), hf.gl⟩
    have h2n : lastAt l2 p_at = none := last_none fun y hy e => by
      have := (List.pairwise_append.1 hA).2.1
      have := (List.pairwise_cons.1 this).1 y hy
      omega
    have lp : lastAt (l1 ++ p :: l2) p_at = some p := by rw [last_append, last_cons, h2n, if_pos hp]; rfl
    have lq : lastAt (l1 ++ q :: l2) p_at = some q := by rw [last_append, last_cons, h2n, if_pos hqa]; rfl
    have lo : ∀ b, b ≠ p_at → lastAt (l1 ++ p :: l2) b = lastAt (l1 ++ q :: l2) b := fun b hb => by
      rw [last_append, last_cons, if_neg (fun e => hb (e.symm.trans hp)), last_append, last_cons, if_neg (fun e => hb (e.symm.trans hqa))]
    have ro : ∀ b, b ≠ p_at → readN ⟨l1 ++ p :: l2, L, false⟩ b = readN ⟨l1 ++ q :: l2, L, false⟩ b := fun b hb => readN_last b rfl rfl (by
      show lastAt ((l1 ++ p :: l2) ++ L) b = lastAt ((l1 ++ q :: l2) ++ L) b
      rw [last_append, last_append _ L, lo b hb])
    refine Tot.bindeq r1 ?_
    cases hL : lastAt L p_at with
    | some r =>
      have re : readN ⟨l1 ++ p :: l2, L, false⟩ p_at = readN ⟨l1 ++ q :: l2, L, false⟩ p_at := readN_last p_at rfl rfl (by
        show lastAt ((l1 ++ p :: l2) ++ L) p_at = lastAt ((l1 ++ q :: l2) ++ L) p_at
        rw [last_append, last_append _ L, hL]; rfl)
      have ra : ∀ b, readN ⟨l1 ++ p :: l2, L, false⟩ b = readN ⟨l1 ++ q :: l2, L, false⟩ b := fun b => by
        by_cases hb : b = p_at
        · rw [hb]; exact re
        · exact ro b hb
      refine rot_rest _ _ p_at p_bit p_other hf he r2 (by rw [re]) (by rw [re]) (by rw [ra]) (fun _ => by rw [ra]) (fun j u v hu hv huv => ?_) (fun _ => .inl (.inl (.inl ⟨r, (last_at hL).2, (last_at hL).1⟩))) (fun ⟨j, u, v, hu, hv, huv⟩ => ?_)
      · rw [re, hv] at hu; cases hu; exact absurd rfl huv
      · rw [re, hv] at hu; cases hu; exact absurd rfl huv
    | none =>
      have hm : mayN p_at 0 := ⟨by rw [← hp]; exact gp.1, Nat.zero_le _⟩
      have rp : readN ⟨l1 ++ p :: l2, L, false⟩ p_at = (p.Data, 0) := by
        rw [readN_eq _ rfl, if_pos hm]
        show (match lastAt ((l1 ++ p :: l2) ++ L) p_at with | none => _ | some p => _) = _
        rw [last_append, hL, lp]; rfl
      have rq : readN ⟨l1 ++ q :: l2, L, false⟩ p_at = (q.Data, 0) := by
        rw [readN_eq _ rfl, if_pos hm]
        show (match lastAt ((l1 ++ q :: l2) ++ L) p_at with | none => _ | some p => _) = _
        rw [last_append, hL, lq]; rfl
      have hne : x ≠ x ^^^ msk p_bit := fun e => xor_other (msk_ne h0) e.symm
      have hC : ¬ ((((∃ r, r ∈ L ∧ r.At = p_at) ∨ ((p.Data, (0 : Int)) : List UInt8 × Int).2 ≠ 0) ∨ p_bit < 0) ∨ p_bit ≥ 8 * (((p.Data, (0 : Int)) : List UInt8 × Int).1.length : Int)) := by
        rintro (((⟨r, hr, hra⟩ | h) | h) | h)
        · have : (lastAt L p_at).isSome := by
            unfold lastAt
            rw [List.find?_isSome]
            exact ⟨r, List.mem_reverse.2 hr, by simpa using hra⟩
          rw [hL] at this; cases this
        · exact h rfl
        · omega
        · dsimp only at h; omega
      refine rot_rest _ _ p_at p_bit p_other hf he r2 (by rw [rp, rq]) (by rw [rp, rq]; exact hql.symm) ?_ (fun h => by rw [ro _ h]) (fun j u v hu hv huv => ?_) (fun h => ?_) (fun _ => by rw [rp]; exact hC)
      · by_cases hb : p_other = p_at
        · rw [hb, rp, rq]
        · rw [ro _ hb]
      · rw [rp] at hu
        rw [rq] at hv
        dsimp only at hu hv
        rw [quo8 h0 (by omega)]
        by_cases hj : j = p_bit.toNat / 8
        · rw [hj]
        · rw [hqd, List.getElem?_set_ne (fun e => hj e.symm), hu] at hv
          cases hv; exact absurd rfl huv
      · exact absurd (h (p_bit.toNat / 8) x _ (by rw [rp]; exact hx) (by rw [rq]; exact hx2)) hne
  · have hno := rot_no (d := p_d) (a := p_at) (bit := p_bit) (by have := hf.s; omega) hdl fun l1 p l2 e1 e2 e3 e4 => hch ⟨l1, p, l2, e1, e2, e3, e4⟩
    refine Tot.bindeq hno ?_
    refine rot_rest _ _ p_at p_bit p_other hf hf hno rfl rfl rfl (fun _ => rfl) (fun j u v hu hv huv => ?_) (fun _ => ?_) (fun ⟨j, u, v, hu, hv, huv⟩ => ?_)
    · rw [hv] at hu; cases hu; exact absurd rfl huv
    · refine Classical.byContradiction fun hc => ?_
      have c1 : ¬ ∃ p, p ∈ p_d.Loose ∧ p.At = p_at := fun h => hc (.inl (.inl (.inl h)))
      have c2 : (readN p_d p_at).2 = 0 := Classical.byContradiction fun h => hc (.inl (.inl (.inr h)))
      have c3 : 0 ≤ p_bit := Classical.byContradiction fun h => hc (.inl (.inr (by omega)))
      have c4 : p_bit < 8 * ((readN p_d p_at).1.length : Int) := Classical.byContradiction fun h => hc (.inr (by omega))
      have hL : lastAt p_d.Loose p_at = none := last_none fun y hy e => c1 ⟨y, hy, e⟩
      rw [readN_eq _ hd] at c2 c4
      by_cases hm : mayN p_at 0
      · rw [if_pos hm, last_append, hL] at c2 c4
        rw [show (none : Option api_Page).or (lastAt p_d.Synced p_at) = lastAt p_d.Synced p_at from rfl] at c2 c4
        cases hlS : lastAt p_d.Synced p_at with
        | none => rw [hlS] at c2; exact absurd c2 (by decide)
        | some p =>
          rw [hlS] at c4
          have hpa := last_at hlS
          cases hfi : p_d.Synced.findIdx? (fun p => p.At == p_at) with
          | none =>
            have := List.findIdx?_eq_none_iff.1 hfi p hpa.2
            rw [hpa.1] at this; simp at this
          | some n =>
            obtain ⟨l1, r, l2, eS, hr, hl⟩ := idx_split hfi
            have hA2 := hA
            rw [eS] at hA2
            have h2n : lastAt l2 p_at = none := last_none fun y hy e => by
              have := (List.pairwise_append.1 hA2).2.1
              have := (List.pairwise_cons.1 this).1 y hy
              omega
            rw [eS, last_append, last_cons, h2n, if_pos hr] at hlS
            have e : r = p := Option.some.inj hlS
            subst e
            exact hch ⟨l1, r, l2, eS, hr, hl, c3, c4⟩
      · rw [if_neg hm] at c2; exact absurd c2 (by decide)
    · rw [hv] at hu; cases hu; exact absurd rfl huv
end Go.Proofs
