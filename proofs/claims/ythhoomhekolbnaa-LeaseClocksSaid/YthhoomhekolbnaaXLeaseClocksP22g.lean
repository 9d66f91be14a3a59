/- Leases, plain: uses and what is let go. No condition. -/
import Derived.Test.YthhoomhekolbnaaXLeaseClocksP22f
namespace Go.Proofs
set_option linter.all false
open Go Go.Cat
set_option linter.all false

/-- One of two that clash: it has the lease as long as the server keeps it, and no longer. -/
theorem ask_other (m : api_Lease) (q : api_Lease) (n now : Int) (hone : oneP (q0 q)) (hn : 1 ≤ n ∧ n ≤ 64) (hnow : 0 ≤ now ∧ now ≤ 5000000000000) (hc : clashB m (q0 q) = true) :
    Tot (lease_Ask [m] now q n) (fun r => if m.Until > now then r.2.1 = false ∧ 0 < r.2.2.length else r.2.1 = true ∧ r.2.2 = []) := by
  refine (t_Ask [m] now q n (by simp) (by omega)).mono fun r hr => ?_
  have hg : oneP (q0 q) ∧ 1 ≤ n ∧ n ≤ 64 := ⟨hone, hn⟩
  split
  · rename_i h
    have hw : whoN [m] now q = [m.Client] := by
      unfold whoN overN
      simp [h, hc]
    have h2 := hr.no hg (by rw [hw]; simp)
    refine ⟨h2.2.1, ?_⟩
    have : m.Client ∈ r.2.2 := (h2.2.2.2 _).2 (by rw [hw]; simp)
    exact List.length_pos_of_mem this
  · rename_i h
    have ho : overN [m] now = [] := by
      unfold overN
      simp at h
      simp [h]
    have hw : whoN [m] now q = [] := by unfold whoN; rw [ho]; rfl
    have hk : keptN [m] now q = [] := by unfold keptN; rw [ho]; rfl
    have h2 := hr.yes hg hw (by rw [hk]; decide)
    rw [h2]; exact ⟨rfl, rfl⟩
theorem l_LeaseClocks (gaps server client : List Int) (long : UInt8) (kind : Bool) (h1 : okL_c_u16 gaps) (h2 : okL_c_u16 server) (h3 : okL_c_u16 client) (h4 : ok_u8 long) (h5 : ok_bool kind) : law22_LeaseClocks gaps server client long kind = some true := by
  have hg := h1.2
  have hsv := h2.2
  have hcl := h3.2
  clear h1 h2 h3 h4 h5
  refine Tot.eq ?_
  unfold law22_LeaseClocks
  refine Tot.bindeq p_head22 (Tot.bind (R := Tells (gaps.length < 2 ∨ 12 < gaps.length)) (Tot.bind (Tot.orI (by simp; omega) fun _ => Tot.dec (by omega)) fun _ h => Tot.ret h) fun v hv => Tot.ite (fun _ => Tot.ret rfl) fun hf => ?_)
  have hgl : 2 ≤ gaps.length ∧ gaps.length ≤ 12 := by
    have : ¬ (gaps.length < 2 ∨ 12 < gaps.length) := fun h => hf (hv.2 h)
    omega
  refine Tot.bind (t_reals gaps (fun x hx => hg x hx) hgl.2) fun r ⟨hr, hrl⟩ => Tot.bind (t_Shows r server hr (fun x hx => hsv x hx)) fun s ⟨hs, hsb⟩ => Tot.bind (t_Shows r client hr (fun x hx => hcl x hx)) fun c ⟨hc, hcb⟩ => ?_
  refine Tot.bind (R := fun b => b = false → FitsC r s ∧ FitsC r c) (Tot.bind (t_Right22 r s hr hsb) fun b1 hb1 => Tot.bind (R := fun b => b = false → FitsC r s ∧ FitsC r c) (Tot.ite (fun _ => Tot.ret fun e => by cases e) fun hn => Tot.bind (t_Right22 r c hr hcb) fun b2 hb2 => Tot.ret fun e => ⟨hb1 (by simpa using hn), hb2 (by simpa using e)⟩) fun _ h => Tot.ret h) fun v hv => Tot.ite (fun _ => Tot.ret rfl) fun hf => ?_
  obtain ⟨fs, fc⟩ := hv (by simpa using hf)
  obtain ⟨n, hn, hn1, hn2⟩ : ∃ n : Int, 1 + Int.tmod ((long.toNat : Int)) 64 = n ∧ 1 ≤ n ∧ n ≤ 64 := by
    rw [Int.tmod_eq_emod_of_nonneg (by omega)]
    exact ⟨_, rfl, by omega, by omega⟩
  rw [hn]
  refine Tot.chk (by unfold InI64; omega) (Tot.bindeq (a := ⟨1, 5, 2, ⟨0, 8⟩, 0, 0⟩) rfl (Tot.bindeq (a := ⟨2, 5, 1, ⟨4, 12⟩, 0, 0⟩) rfl ?_))
  obtain ⟨m, q, hmq, hm1, hq1, hcq, hmk, hmc, hmi, hmf, hmt⟩ : ∃ m q : api_Lease, (if kind then (law22_ask (1) (1) (0) (8)).bind fun x10 => (law22_ask (2) (2) (7) (9)).bind fun x11 => some ((x10.Client, x10.Ino, x10.Kind, x10.Span.From, x10.Span.To, x10.Until, x10.Epoch, x11.Client, x11.Ino, x11.Kind, x11.Span.From, x11.Span.To, x11.Until, x11.Epoch)) else some (((1 : Int), (5 : Int), (2 : Int), (0 : Int), (8 : Int), (0 : Int), (0 : Int), (2 : Int), (5 : Int), (1 : Int), (4 : Int), (12 : Int), (0 : Int), (0 : Int)))) = some ((m.Client, m.Ino, m.Kind, m.Span.From, m.Span.To, m.Until, m.Epoch, q.Client, q.Ino, q.Kind, q.Span.From, q.Span.To, q.Until, q.Epoch)) ∧ oneP (q0 m) ∧ oneP (q0 q) ∧ (∀ u e, clashB ⟨m.Client, m.Ino, m.Kind, m.Span, u, e⟩ (q0 q) = true) ∧ kindP m.Kind ∧ m.Client = 1 ∧ m.Ino = 5 ∧ m.Span.From = 0 ∧ m.Span.To = 8 := by
    cases kind with
    | true => exact ⟨⟨1, 5, 1, ⟨0, 8⟩, 0, 0⟩, ⟨2, 5, 2, ⟨7, 9⟩, 0, 0⟩, rfl, by decide, by decide, fun _ _ => by rfl, by decide, rfl, rfl, rfl, rfl⟩
    | false => exact ⟨⟨1, 5, 2, ⟨0, 8⟩, 0, 0⟩, ⟨2, 5, 1, ⟨4, 12⟩, 0, 0⟩, rfl, by decide, by decide, fun _ _ => by rfl, by decide, rfl, rfl, rfl, rfl⟩
  refine Tot.bindeq hmq ?_
  have hl1 : 1 < s.length := by omega
  have hs1 := getLt hl1
  generalize hs1e : s[1] = s1 at hs1
  have hs1b := hsb s1 (List.mem_of_getElem? hs1)
  refine Tot.bindeq (show idx s 1 = some s1 from idx_some hs1) ?_
  have hm' : (⟨m.Client, m.Ino, m.Kind, ⟨m.Span.From, m.Span.To⟩, m.Until, m.Epoch⟩ : api_Lease) = m := rfl
  have hq' : (⟨q.Client, q.Ino, q.Kind, ⟨q.Span.From, q.Span.To⟩, q.Until, q.Epoch⟩ : api_Lease) = q := rfl
  dsimp only
  rw [hm']
  have ha : lease_Ask [] s1 m n = some ([⟨m.Client, m.Ino, m.Kind, m.Span, s1 + (n + 2), m.Epoch⟩], true, []) := by
    obtain ⟨x, hx, hp⟩ := t_Ask [] s1 m n (by decide) (by omega)
    have e := hp.yes ⟨hm1, hn1, hn2⟩ rfl (show (keptN [] s1 m).length < 64 from (by decide : (0 : Nat) < 64))
    rw [hx, e]; rfl
  refine Tot.bindeq ha (Tot.ncond (by simp) ?_)
  generalize hM : (⟨m.Client, m.Ino, m.Kind, m.Span, s1 + (n + 2), m.Epoch⟩ : api_Lease) = M at ha
  have hMu : M.Until = s1 + (n + 2) := by rw [← hM]
  have hMc : clashB M (q0 q) = true := by rw [← hM]; exact hcq _ _
  have hMh : hadB 1 5 m.Kind M = true := by rw [← hM]; unfold hadB; simp [hmc, hmi]
  have hMs : M.Span = m.Span := by rw [← hM]
  have hl0 : 0 < c.length := by omega
  have hc0 := getLt hl0
  generalize c[0] = c0 at hc0
  have hc0b := hcb c0 (List.mem_of_getElem? hc0)
  unfold law22_LeaseClocks_L2
  refine Tot.loop (fun k : Int => 1 ≤ k ∧ k ≤ (r.length : Int)) (fun k => ((r.length : Int) - k).toNat) ?_ 1 ⟨by decide, by omega⟩
  rintro k ⟨k0, k1⟩
  unfold law22_LeaseClocks_B2 law22_LeaseClocks_J1
  refine Tot.ite (fun hlt => ?_) fun _ => Tot.out (Tot.ret rfl)
  have hlt : k < r.length := by simpa using hlt
  obtain ⟨i, rfl⟩ : ∃ i : Nat, k = i := ⟨k.toNat, by omega⟩
  have hli : i < r.length := by omega
  have hri := getLt hli
  have hci := getLt (l := c) (n := i) (by omega)
  have hsi := getLt (l := s) (n := i) (by omega)
  have hr0 := getLt (l := r) (n := 0) (by omega)
  have hr1 := getLt (l := r) (n := 1) (by omega)
  generalize r[i] = ri at hri
  generalize c[i] = ci at hci
  generalize s[i] = si at hsi
  generalize r[0] = r0 at hr0
  generalize r[1] = r1 at hr1
  have hsib := hsb si (List.mem_of_getElem? hsi)
  have hcib := hcb ci (List.mem_of_getElem? hci)
  rw [hn]
  dsimp only
  refine Tot.bindeq (idx_some hci) (Tot.bindeq (show idx c 0 = some c0 from idx_some hc0) (Tot.chk (by unfold InI64; omega) (Tot.bindeq (idx_some hsi) (Tot.bindeq (p_Over [M] si (by simp)) ?_))))
  have hkey : ci < c0 + n → M.Until > si := fun hu => by
    have f1 := fc.2 i 0 ri r0 ci c0 (by omega) hri hr0 hci hc0
    have g1 := rise_idx hr.up hr0 hr1 (by omega)
    have gi := rise_idx hr.up hr1 hri (by omega)
    have g0 := rise_idx hr.up hr0 hri (by omega)
    rw [hMu]
    rcases Nat.lt_or_ge 1 i with h | h
    · have f2 := fs.2 i 1 ri r1 si s1 h hri hr1 hsi hs1
      omega
    · have : i = 1 := by omega
      subst this
      rw [hsi] at hs1; cases hs1
      omega
  have hhas : lease_Has ([M].filter fun x => decide (x.Until > si)) 1 5 m.Kind ⟨m.Span.From, m.Span.To⟩ = some (decide (M.Until > si)) := by
    by_cases h : M.Until > si
    · have e : [M].filter (fun x => decide (x.Until > si)) = [M] := by simp [h]
      rw [e, decide_eq_true h]
      exact has_yes (by simp) (by unfold spanP; rw [hmf, hmt]; decide) hmk M (by simp) hMh (by rw [hMs]; exact ⟨Int.le_refl _, Int.le_refl _⟩)
    · have e : [M].filter (fun x => decide (x.Until > si)) = [] := by simp at h; simp [h]
      rw [e, decide_eq_false h]
      exact has_no (by decide) 0 (by unfold InS; rw [hmf, hmt]; decide) fun x hx => by cases hx
  refine Tot.bindeq hhas (Tot.bindeq (idx_some hsi) ?_)
  rw [hq']
  refine Tot.bind (ask_other M q n si hq1 ⟨hn1, hn2⟩ (by omega) hMc) fun x20 h20 => ?_
  refine Tot.bind (R := (· = false)) ?_ fun v hv => ?_
  · by_cases h : M.Until > si
    · rw [if_pos h] at h20
      rw [decide_eq_true h, h20.1]
      have hd : decide ((x20.2.2.length : Int) > 0) = true := decide_eq_true (by have := h20.2; omega)
      rw [hd]
      exact Tot.of (by cases decide (ci < c0 + n) <;> rfl)
    · rw [if_neg h] at h20
      rw [decide_eq_false h, h20.1, h20.2]
      have hd : decide (ci < c0 + n) = false := decide_eq_false fun hu => h (hkey hu)
      rw [hd]
      exact Tot.of rfl
  subst hv
  exact Tot.ncond (by decide) (Tot.chk (by unfold InI64; omega) (Tot.inl ⟨⟨by omega, by omega⟩, by omega⟩))
end Go.Proofs
