/- Rot, plain: the law. No condition. -/
import Derived.Test.YtpohijpdclienabGreatXScrubRotP270w
namespace Go.Proofs
set_option linter.all false
open Go Go.Cat
set_option linter.all false
section
variable {c : api_Copy} {N s : Nat} {d1 d2 : api_Disk}
def chN (c : api_Copy) (N : Nat) : api_Chain := ⟨c.Id, c.Ver, srv N⟩
theorem ch_ok (h5 : N ≤ 5) : ChainOk (chN c N) := ⟨by show (srv N).length ≤ 12; rw [srv_len]; omega, fun y hy => by
 obtain ⟨k, _, rfl⟩ := srv_mem.1 hy; omega⟩
theorem ch_right (hc : mayP c) (h5 : N ≤ 5) : RightL [chN c N] := fun n x hx => by
 have hn : n = 0 := by
  have := idx_len hx; simp at this; exact this
 subst hn
 have : x = chN c N := by simpa using hx.symm
 subst this
 have h1 := hc.1; have h2 := hc.2.1
 refine ⟨⟨⟨h1.1, ?_⟩, ⟨h2.1, h2.2⟩, by show (srv N).length ≤ 5; rw [srv_len]; exact h5, fun y hy => ?_, srv_nodup N⟩, fun m a e _ => by omega⟩
 ·show c.Id ≤ 199; omega
 ·obtain ⟨k, _, rfl⟩ := srv_mem.1 hy; omega
theorem stands_at {D : List api_Disk} {ch : api_Chain} {k : Nat} {d : api_Disk} (h : D[k]? = some d) : standsN D ch (k : Int) = standD d ch := by
 unfold standsN
 rw [show ((k : Int)).toNat = k by omega, h]
theorem rep_at (h : s < N) : (List.replicate N d1)[s]? = some d1 := by rw [List.getElem?_replicate, if_pos h]
theorem set_at (hs : s < N) {k : Nat} (hk : k < N) : ((List.replicate N d1).set s d2)[k]? = some (if k = s then d2 else d1) := by
 by_cases e : k = s
 ·subst e; rw [List.getElem?_set_self (by simpa using hs), if_pos rfl]
 ·rw [List.getElem?_set_ne (fun q => e q.symm), rep_at hk, if_neg e]
end
theorem l_ScrubRot (id : UInt8) (ver : Int) (data : List UInt8) (many at_ : UInt8) (bit : Int) (h1 : ok_u8 id) (h2 : ok_u16 ver) (h3 : okL_cU8 data) (h4 : ok_u8 many) (h5 : ok_u8 at_) (h6 : ok_u16 bit) : law27_ScrubRot id ver data many at_ bit = some true := by
 have hdl := h3.1
 clear h1 h3 h4 h5
 refine Tot.eq ?_
 unfold law27_ScrubRot
 have t0 : 0 ≤ Int.tmod (many.toNat : Int) 5 := Int.tmod_nonneg _ (by omega)
 have t1 : Int.tmod (many.toNat : Int) 5 < 5 := Int.tmod_lt_of_pos _ (by omega)
 obtain ⟨N, hN⟩ : ∃ N : Nat, 1 + Int.tmod (many.toNat : Int) 5 = (N : Int) := ⟨(1 + Int.tmod (many.toNat : Int) 5).toNat, by omega⟩
 have hN1 : 1 ≤ N := by omega
 have hN5 : N ≤ 5 := by omega
 have hv : IntKind.i64.wrap ver = ver := wrapi (by unfold ok_u16 at h2; unfold InI64; omega)
 have hb0 : IntKind.i64.wrap bit = bit := wrapi (by unfold ok_u16 at h6; unfold InI64; omega)
 have i0 : 0 ≤ Int.tmod (id.toNat : Int) 200 := Int.tmod_nonneg _ (by omega)
 have i1 : Int.tmod (id.toNat : Int) 200 < 200 := Int.tmod_lt_of_pos _ (by omega)
 have hmin : (min (data.length : Int) 64).toNat = min data.length 64 := by omega
 unfold law27_ScrubRot_L1
 simp only [hN, hv, hb0, hmin]
 have htl : (data.take (min data.length 64)).length ≤ 64 := by rw [List.length_take]; omega
 refine Tot.bindeq p_head27 (Tot.chk (by unfold InI64; omega) (Tot.chk ⟨by omega, by omega⟩ (Tot.bindeq (p_New _ _ _ (by omega)) ?_)))
 generalize data.take (min data.length 64) = dd at htl
 have hbl := blocksN_len dd
 have hc : mayP ⟨Int.tmod (id.toNat : Int) 200, ver, dd, (blocksN dd).map Int.ofNat⟩ := ⟨⟨i0, i1⟩, ⟨by unfold ok_u16 at h2; show 0 ≤ ver; omega, by unfold ok_u16 at h2; show ver ≤ _; omega⟩, htl, rfl⟩
 have hpl : (pageN ⟨Int.tmod (id.toNat : Int) 200, ver, dd, (blocksN dd).map Int.ofNat⟩).length ≤ 200 := by
  generalize Int.tmod (id.toNat : Int) 200 = i at i0 i1
  have z1 : (packN (zig i)).length ≤ 2 := packN_le 1 (by unfold zig; rw [if_neg (by omega)]; show _ < 16384; omega)
  have z2 : (packN (zig ver)).length ≤ 3 := packN_le 2 (by unfold ok_u16 at h2; unfold zig; rw [if_neg (by omega)]; show _ < 2097152; omega)
  have z3 : (packN (zig dd.length)).length ≤ 2 := packN_le 1 (by unfold zig; rw [if_neg (by omega)]; show _ < 16384; omega)
  have z4 : (packN (zig ((blocksN dd).length : Int))).length ≤ 1 := packN_le 0 (by unfold zig; rw [if_neg (by omega)]; show _ < 128; omega)
  have z5 := nums5 (blocksN dd) (blocksF_lt _ _)
  simp [pageN, bodyN, tailN, strN, intsN] at z5 ⊢
  omega
 generalize (⟨Int.tmod (id.toNat : Int) 200, ver, dd, (blocksN dd).map Int.ofNat⟩ : api_Copy) = c at hc hpl
 have hw : withinP c.Id := by have := hc.1; unfold withinP; omega
 refine Tot.bind (R := (· = (List.replicate N (pg c (pageN c)), srv N))) ?_ ?_
 ·refine Tot.loop (fun t : Int × List api_Disk × List Int => ∃ k : Nat, k ≤ N ∧ t = ((k : Int), List.replicate k (pg c (pageN c)), (List.range k).map fun (i : Nat) => ((N : Int) - 1 - (i : Int)))) (fun t => N + 1 - t.1.toNat) ?_ _ ⟨0, by omega, rfl⟩
  rintro _ ⟨k, hk, rfl⟩
  unfold law27_ScrubRot_B1
  simp only [hN]
  refine Tot.ite (fun h => ?_) fun h => ?_
  ·have h : k < N := by simpa using h
   refine Tot.bindeq (a := (⟨[], [], false⟩ : api_Disk)) rfl (Tot.bindeq (on_one hc hpl) (Tot.chk (by simp; omega) (Tot.chk (by unfold InI64; omega) (Tot.chk (by unfold InI64; omega) (Tot.chk (by simp; omega) (Tot.chk (by unfold InI64; omega) (Tot.inl ⟨⟨k + 1, h, ?_⟩, by dsimp only; omega⟩)))))))
   rw [List.replicate_succ', List.range_succ, List.map_append]; rfl
  ·have h : ¬ k < N := by simpa using h
   obtain rfl : k = N := by omega
   exact Tot.out (Tot.ret rfl)
 rintro _ rfl
 dsimp only
 have hF1 : FitL (List.replicate N (pg c (pageN c))) 120 := ⟨by simp; omega, fun d hd => by rw [(List.mem_replicate.1 hd).2]; exact (pg_fit hw hpl).mono (by omega)⟩
 have hD1 := hF1.small (by omega)
 have hco : ChainOk (chN c N) := ch_ok hN5
 have hR := ch_right hc hN5
 have g1 : standD (pg c (pageN c)) (chN c N) = 0 := by
  rw [stand_intact]
  show (pg c (pageN c)).Down = false ∧ (getN (pg c (pageN c)) c.Id).2 = 0 ∧ (getN (pg c (pageN c)) c.Id).1.Ver = c.Ver
  rw [pg_good hc hpl]; exact ⟨rfl, rfl, rfl⟩
 have s1 : ∀ y, y ∈ (chN c N).Servers → standsN (List.replicate N (pg c (pageN c))) (chN c N) y = 0 := fun y hy => by
  obtain ⟨k, hk, rfl⟩ := srv_mem.1 hy
  rw [stands_at (rep_at hk)]; exact g1
 have l1 : lookN (List.replicate N (pg c (pageN c))) (chN c N) = [] := by
  unfold lookN
  rw [List.filter_eq_nil_iff.2 fun y hy => by rw [s1 y hy]; simp]; rfl
 have n1 : (intactN (List.replicate N (pg c (pageN c))) (chN c N)).length = N := by
  unfold intactN
  rw [List.filter_eq_self.2 fun y hy => by rw [s1 y hy]; rfl]
  exact srv_len N
 refine Tot.bindeq (a := false) ?_ (Tot.ncond (by simp) (Tot.chk (by omega) ?_))
 ·have q1 : scrub_Look (List.replicate N (pg c (pageN c))) ⟨c.Id, c.Ver, srv N⟩ = some [] := by rw [← l1]; exact p_Look hD1 hco
  have q2 : scrub_Intact (List.replicate N (pg c (pageN c))) ⟨c.Id, c.Ver, srv N⟩ = some (intactN (List.replicate N (pg c (pageN c))) (chN c N)) := p_Intact hD1 hco
  simp [q1, q2, n1]
 have a0 : 0 ≤ Int.tmod (at_.toNat : Int) (N : Int) := Int.tmod_nonneg _ (by omega)
 have a1 : Int.tmod (at_.toNat : Int) (N : Int) < (N : Int) := Int.tmod_lt_of_pos _ (by omega)
 obtain ⟨s, hs⟩ : ∃ s : Nat, Int.tmod (at_.toNat : Int) (N : Int) = (s : Int) := ⟨(Int.tmod (at_.toNat : Int) (N : Int)).toNat, by omega⟩
 have hsN : s < N := by omega
 simp only [hs]
 have hd1 := (pg_fit hw hpl).small (by omega)
 have hpos : 0 < (pageN c).length := List.length_pos_iff.2 (page_ne c)
 refine Tot.bindeq (idx_some (rep_at hsN)) (Tot.bindeq (p_Read _ _ hd1) ?_)
 rw [pg_read hw]
 refine Tot.bindeq (a := false) (by rw [if_neg (by simp)]; simp; exact page_ne c) (Tot.ncond (by simp) (Tot.bindeq (idx_some (rep_at hsN)) (Tot.chk (by unfold InI64; dsimp only; omega) (Tot.chk (by dsimp only; omega) ?_))))
 have b0 : 0 ≤ bit.tmod (8 * ((pageN c).length : Int)) := Int.tmod_nonneg _ (by unfold ok_u16 at h6; omega)
 have b1 : bit.tmod (8 * ((pageN c).length : Int)) < 8 * ((pageN c).length : Int) := Int.tmod_lt_of_pos _ (by omega)
 dsimp only
 generalize bit.tmod (8 * ((pageN c).length : Int)) = t at b0 b1
 have hK : t.toNat / 8 < (pageN c).length := by omega
 have hx : (pageN c)[t.toNat / 8]? = some (pageN c)[t.toNat / 8] := List.getElem?_eq_getElem hK
 generalize (pageN c)[t.toNat / 8] = x at hx
 have hr := rot_ok (l1 := []) (l2 := []) (L := []) (b := false) (p := ⟨c.Id, pageN c⟩) (a := c.Id) rfl (by simp) (by simp) (by dsimp only; omega) b0 b1 hx
 have hbad : ∀ c', pageN c' ≠ (pageN c).set (t.toNat / 8) (x ^^^ msk t) := fun c' => page_turned hx (xor_other (msk_ne b0))
 have hql : ((pageN c).set (t.toNat / 8) (x ^^^ msk t)).length ≤ 200 := by rw [List.length_set]; exact hpl
 have hqn : (pageN c).set (t.toNat / 8) (x ^^^ msk t) ≠ [] := fun e => by
  have := congrArg List.length e
  rw [List.length_set] at this; simp at this; exact page_ne c this
 refine Tot.bindeq hr ?_
 show Tot ((idx _ _).bind fun _ => _) _
 rw [show (⟨[] ++ (⟨c.Id, (pageN c).set (t.toNat / 8) (x ^^^ msk t)⟩ : api_Page) :: [], [], false⟩ : api_Disk) = pg c ((pageN c).set (t.toNat / 8) (x ^^^ msk t)) from rfl]
 generalize hq : (pageN c).set (t.toNat / 8) (x ^^^ msk t) = q at hbad hql hqn
 have g2 : standD (pg c q) (chN c N) = 3 := by
  have hbd := pg_bad hc hql hqn hbad
  unfold standD
  show (if (pg c q).Down = true then (1 : Int) else if (getN (pg c q) c.Id).2 = 41 then 2 else if (getN (pg c q) c.Id).2 ≠ 0 then 3 else _) = 3
  rw [hbd, if_neg (by simp [pg]), if_neg (by omega), if_pos (by omega)]
 refine Tot.bindeq (idx_some (rep_at hsN)) ?_
 have hsn : ((s : Int)).toNat = s := by omega
 rw [hsn]
 have hF : FitL ((List.replicate N (pg c (pageN c))).set s (pg c q)) 120 := ⟨by simp; omega, fun d hd => by
  rcases List.mem_or_eq_of_mem_set hd with hd | rfl
  ·exact hF1.d d hd
  ·exact (pg_fit hw hql).mono (by omega)⟩
 have hst : ∀ k : Nat, k < N → standsN ((List.replicate N (pg c (pageN c))).set s (pg c q)) (chN c N) (k : Int) = if k = s then 3 else 0 := fun k hk => by
  rw [stands_at (set_at hsN hk)]
  split
  ·exact g2
  ·exact g1
 generalize (List.replicate N (pg c (pageN c))).set s (pg c q) = D at hF hst
 have hD := hF.small (by omega)
 have hsm : (s : Int) ∈ (chN c N).Servers := srv_mem.2 ⟨s, hsN, rfl⟩
 obtain ⟨f1, f2⟩ := filter_one (srv_nodup N) (srv_mem.2 ⟨s, hsN, rfl⟩)
 have hpr : ∀ y, y ∈ (chN c N).Servers → (standsN D (chN c N) y != 0) = (y == (s : Int)) := fun y hy => by
  obtain ⟨k, hk, rfl⟩ := srv_mem.1 hy
  rw [hst k hk]
  by_cases e : k = s
  ·simp [e]
  ·have : ¬ (k : Int) = (s : Int) := by omega
   rw [if_neg e]
   have : ((k : Int) == (s : Int)) = false := by simpa using this
   rw [this]; rfl
 have hlk : lookN D (chN c N) = [⟨c.Id, (s : Int), 3⟩] := by
  unfold lookN
  have : (chN c N).Servers.filter (fun y => standsN D (chN c N) y != 0) = [(s : Int)] := by
   rw [List.filter_congr hpr]; exact f1
  rw [this]
  show [findN D (chN c N) (s : Int)] = _
  unfold findN
  rw [hst s hsN, if_pos rfl]; rfl
 have hin : (intactN D (chN c N)).length + 1 = N := by
  unfold intactN
  have : (chN c N).Servers.filter (fun y => standsN D (chN c N) y == 0) = (srv N).filter fun y => y != (s : Int) := List.filter_congr fun y hy => by
   have := hpr y hy
   unfold bne at this ⊢
   rw [← this, Bool.not_not]
  rw [this]
  have := srv_len N
  omega
 refine Tot.bindeq (a := lookN D (chN c N)) (p_Look hD hco) (Tot.bindeq (a := (planJ D [chN c N], planL D [chN c N])) (p_Plan hD (by simp) hR.oks) (Tot.bindeq (a := true) (by rw [hlk]; exact r_same1 _) (Tot.ncond (by simp) ?_)))
 refine Tot.ite (fun h => ?_) fun h => ?_
 ·have h : N = 1 := by simp at h; omega
  have h0 : intactN D (chN c N) = [] := List.length_eq_zero_iff.1 (by omega)
  have e1 : planJ D [chN c N] = [] := by unfold planJ; simp [h0]
  have e2 : planL D [chN c N] = [c.Id] := by unfold planL; simp [h0]; rfl
  rw [e1, e2]
  have hi : ref02_Ints [c.Id] [c.Id] = some true := by
   obtain ⟨b, e, hb⟩ := p_RInts [c.Id] [c.Id] (by simp)
   rw [e, hb.2 rfl]
  simp [hi, Tot]
 ·have h : N ≠ 1 := by simp at h; omega
  have h0 : intactN D (chN c N) ≠ [] := fun e => by rw [e] at hin; simp at hin; omega
  have e2 : planL D [chN c N] = [] := by unfold planL; simp [h0]
  have e3 : sLook D (chN c N) = [⟨c.Id, (s : Int), 3⟩] := by
   have := sLook_perm D (chN c N)
   rw [hlk] at this
   exact List.perm_singleton.1 this
  have e1 : planJ D [chN c N] = [jobOf D (chN c N) ⟨c.Id, (s : Int), 3⟩] := by
   unfold planJ
   simp only [List.flatMap_cons, List.flatMap_nil, List.append_nil]
   rw [if_neg h0]
   unfold jobsN
   rw [e3]; rfl
  have hjm : jobOf D (chN c N) ⟨c.Id, (s : Int), 3⟩ ∈ planJ D [chN c N] := by rw [e1]; simp
  obtain ⟨n1', n2'⟩ := p_next hco (intact_len hco) h0 (s : Int)
  have hfr : fromN D (chN c N) (s : Int) ≠ (s : Int) := fun e => by
   have := (mem_intact.1 n2').2
   unfold fromN at e
   rw [e, hst s hsN, if_pos rfl] at this; omega
  have hj0 : idx (planJ D [chN c N]) 0 = some (jobOf D (chN c N) ⟨c.Id, (s : Int), 3⟩) := by rw [e1]; rfl
  have hto : (jobOf D (chN c N) ⟨c.Id, (s : Int), 3⟩).To = (s : Int) := rfl
  have hfm : (jobOf D (chN c N) ⟨c.Id, (s : Int), 3⟩).From = fromN D (chN c N) (s : Int) := rfl
  have hhv : (jobOf D (chN c N) ⟨c.Id, (s : Int), 3⟩).Have = (N : Int) - 1 := by
   show ((intactN D (chN c N)).length : Int) = _; omega
  refine Tot.bindeq (a := false) ?_ (Tot.ncond (by simp) ?_)
  ·have hI : InI64 ((N : Int) - 1) := by unfold InI64; omega
   have hl1 : (planJ D [chN c N]).length = 1 := by rw [e1]; rfl
   simp [hj0, hl1, e2, hto, hfm, hhv, hfr, chk_pos hI]
  have hjin : ∀ k, k ∈ planJ D [chN c N] → JobIn D [chN c N] k := fun k hk => job_in hD hR hk
  refine Tot.bind (p_done hF hR (J := planJ D [chN c N]) hjin (by rw [e1]; simp) (by rw [e1]; simp)) ?_
  rintro ⟨a, _⟩ ⟨rfl, ha⟩
  dsimp only at ha
  have haS := ha.fit.small (by rw [e1]; simp)
  have hlast : lookN a (chN c N) = [] := by
   unfold lookN
   rw [List.filter_eq_nil_iff.2 fun y hy => ?_]; rfl
   have := (md_stands hF hR (J := planJ D [chN c N]) (fun _ => Iff.rfl) (by rw [e1]; simp) ha (c := chN c N) (by simp) hy).2 h0
   obtain ⟨k, hk, rfl⟩ := srv_mem.1 hy
   rw [hst k hk] at this
   rw [this]
   by_cases e : k = s <;> simp [e]
  have hla : scrub_Look a (⟨c.Id, c.Ver, srv N⟩ : api_Chain) = some [] := by rw [← hlast]; exact p_Look haS hco
  simp [hla, Tot]
end Go.Proofs
