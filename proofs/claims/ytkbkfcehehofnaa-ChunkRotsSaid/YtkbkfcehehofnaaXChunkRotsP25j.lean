/- Chunks, plain: put, had, lost. No condition. -/
import Derived.Test.YtkbkfcehehofnaaXChunkRotsP25i
import Derived.Test.YtkbkfcehehofnaaXChunkRotsIn
namespace Go.Proofs
set_option linter.all false
open Go Go.Cat

theorem p_RInts (a b : List Int) (h : a.length ≤ 1000000) : Tot (ref02_Ints a b) (Tells (a = b)) := by
  unfold ref02_Ints ref02_Ints_L1
  refine Tot.ite (fun hne => Tot.ret ⟨fun e => (by cases e), fun e => (by subst e; simp at hne)⟩) fun heq => ?_
  have heq : a.length = b.length := by simp at heq; omega
  refine Tot.loop (fun s : Int => 0 ≤ s ∧ s ≤ (a.length : Int) ∧ ∀ j : Nat, j < s.toNat → a[j]? = b[j]?) (fun s => ((a.length : Int) - s).toNat) ?_ 0 ⟨by simp, by simp, fun j hj => by simp at hj⟩
  rintro s ⟨g0, g1, g2⟩
  unfold ref02_Ints_B1 ref02_Ints_J1
  refine Tot.ite (fun hlt => ?_) (fun hge => Tot.out (Tot.ret ⟨fun _ => List.ext_getElem? fun j => ?_, fun _ => rfl⟩))
  · have hlt : s < a.length := by simpa using hlt
    refine Tot.bind (Tot.idx g0 hlt (Q := fun y => a[s.toNat]? = some y) fun _ h => h) fun x hx => Tot.bind (Tot.idx g0 (by omega) (Q := fun y => b[s.toNat]? = some y) fun _ h => h) fun y hy => ?_
    refine Tot.ite (fun hn => Tot.out (Tot.ret ⟨fun e => (by cases e), fun e => ?_⟩)) fun he => Tot.chk (by unfold InI64; omega) (Tot.inl ⟨⟨by omega, by omega, fun j hj => ?_⟩, by omega⟩)
    · subst e; rw [hx] at hy; cases hy; simp at hn
    · rcases Nat.lt_or_ge j s.toNat with h | h
      · exact g2 j h
      · have : j = s.toNat := by omega
        subst this
        rw [hx, hy]; simpa using he
  · have hge : ¬ s < a.length := by simpa using hge
    rcases Nat.lt_or_ge j s.toNat with h | h
    · exact g2 j h
    · rw [List.getElem?_eq_none (by omega), List.getElem?_eq_none (by omega)]
theorem p_RBytes (a b : List UInt8) (h : a.length ≤ 1000000) : Tot (ref02_Bytes a b) (Tells (a = b)) := by
  unfold ref02_Bytes ref02_Bytes_L1
  refine Tot.ite (fun hne => Tot.ret ⟨fun e => (by cases e), fun e => (by subst e; simp at hne)⟩) fun heq => ?_
  have heq : a.length = b.length := by simp at heq; omega
  refine Tot.loop (fun s : Int => 0 ≤ s ∧ s ≤ (a.length : Int) ∧ ∀ j : Nat, j < s.toNat → a[j]? = b[j]?) (fun s => ((a.length : Int) - s).toNat) ?_ 0 ⟨by simp, by simp, fun j hj => by simp at hj⟩
  rintro s ⟨g0, g1, g2⟩
  unfold ref02_Bytes_B1 ref02_Bytes_J1
  refine Tot.ite (fun hlt => ?_) (fun hge => Tot.out (Tot.ret ⟨fun _ => List.ext_getElem? fun j => ?_, fun _ => rfl⟩))
  · have hlt : s < a.length := by simpa using hlt
    refine Tot.bind (Tot.idx g0 hlt (Q := fun y => a[s.toNat]? = some y) fun _ h => h) fun x hx => Tot.bind (Tot.idx g0 (by omega) (Q := fun y => b[s.toNat]? = some y) fun _ h => h) fun y hy => ?_
    refine Tot.ite (fun hn => Tot.out (Tot.ret ⟨fun e => (by cases e), fun e => ?_⟩)) fun he => Tot.chk (by unfold InI64; omega) (Tot.inl ⟨⟨by omega, by omega, fun j hj => ?_⟩, by omega⟩)
    · subst e; rw [hx] at hy; cases hy; simp at hn
    · rcases Nat.lt_or_ge j s.toNat with h | h
      · exact g2 j h
      · have : j = s.toNat := by omega
        subst this
        rw [hx, hy]
        have he : (x.toNat : Int) = (y.toNat : Int) := by simpa using he
        exact congrArg some (UInt8.toNat_inj.1 (by omega))
  · have hge : ¬ s < a.length := by simpa using hge
    rcases Nat.lt_or_ge j s.toNat with h | h
    · exact g2 j h
    · rw [List.getElem?_eq_none (by omega), List.getElem?_eq_none (by omega)]
theorem p_Same (a b : api_Copy) (h : a.Data.length ≤ 1000000 ∧ a.Sums.length ≤ 1000000) : Tot (ref25_Same a b) (Tells (a = b)) := by
  unfold ref25_Same
  refine Tot.bind (R := Tells ((((a.Id = b.Id) ∧ a.Ver = b.Ver) ∧ a.Data = b.Data) ∧ a.Sums = b.Sums)) ?_ fun v hv => Tot.ret (hv.trans ?_)
  · exact Tot.bind (Tot.andI (by simp) fun _ => Tot.is (by simp)) fun _ h1 => Tot.bind (Tot.andI h1 fun _ => Tot.bind (p_RBytes _ _ h.1) fun _ hb => Tot.ret hb) fun _ h2 => Tot.bind (Tot.andI h2 fun _ => Tot.bind (p_RInts _ _ h.2) fun _ hb => Tot.ret hb) fun _ h3 => Tot.ret h3
  · obtain ⟨a1, a2, a3, a4⟩ := a
    obtain ⟨b1, b2, b3, b4⟩ := b
    simp [and_assoc]

theorem t_GetS (d : api_Disk) (id : Int) (hd : smallD d) : Tot (chunk_Get d id) (fun r => (if (thereN d id).2 = 0 then r.2 = 0 ∨ r.2 = 251 else r.2 = (thereN d id).2) ∧ (r.1.Data.length ≤ 1000 ∧ r.1.Sums.length ≤ 1000) ∧ (r.2 = 0 → mayP r.1 ∧ r.1.Id = id ∧ pageN r.1 = (thereN d id).1) ∧ (r.2 ≠ 0 → r.1 = ⟨0, 0, [], []⟩)) := by
  unfold chunk_Get
  refine Tot.bindeq (p_there d id hd) ?_
  have hl := thereN_len hd id
  refine Tot.ite (fun h => Tot.ret ⟨by rw [if_neg (by simpa using h)], by simp, fun h0 => ?_, fun _ => rfl⟩) fun h => ?_
  · simp at h; exact (h h0).elim
  have h0 : (thereN d id).2 = 0 := by simpa using h
  have h251 : (251 : Int) = 0 → False := by decide
  simp only [if_pos h0]
  refine Tot.ite (fun _ => Tot.ret ⟨.inr rfl, by simp, fun h => (h251 h).elim, fun _ => rfl⟩) fun h4 => ?_
  have h4 : 4 ≤ (thereN d id).1.length := by simp at h4; omega
  refine Tot.chk (by unfold InI64; omega) (Tot.chk (by omega) ?_)
  refine Tot.bind (t_copy _ (by simp; omega)) fun r hr => ?_
  have hr : r.1.1.Sums.length ≤ 1000 := Nat.le_trans hr (by simp; omega)
  refine Tot.bind (R := fun v => v = false → mayP r.1.1 ∧ r.1.1.Id = id ∧ pageN r.1.1 = (thereN d id).1) ?_ fun v hv => Tot.ite (fun _ => Tot.ret ⟨.inr rfl, by simp, fun h => (h251 h).elim, fun _ => rfl⟩) (fun hn => ?_)
  · refine Tot.bind (R := fun c => c = false → mayP r.1.1) ?_ fun c1 hc1 => ?_
    · refine Tot.ite (fun hx => Tot.ret fun e => by cases e) fun hx => Tot.bind (p_may r.1.1 (by omega)) fun b hb => Tot.ret fun hh => hb.1 (by simpa using hh)
    refine Tot.bind (R := fun c => c = false → mayP r.1.1 ∧ r.1.1.Id = id) (Tot.ite (fun _ => Tot.ret fun e => by cases e) fun hc => Tot.ret fun e => ⟨hc1 (by simpa using hc), by simpa using e⟩) fun c2 hc2 => ?_
    refine Tot.bind (R := fun c => c = false → mayP r.1.1 ∧ r.1.1.Id = id ∧ pageN r.1.1 = (thereN d id).1) (Tot.ite (fun _ => Tot.ret fun e => by cases e) fun hc => ?_) fun c3 h => Tot.ret h
    have hp := hc2 (by simpa using hc)
    refine Tot.bindeq (p_page _ (mayP_small hp.1)) (Tot.bindeq rfl (Tot.ret fun e => ⟨hp.1, hp.2, by simpa using e⟩))
  · have hp := hv (by simpa using hn)
    have hs := mayP_small hp.1
    exact Tot.ret ⟨.inl rfl, ⟨hs.2.2.1, hs.2.2.2.1⟩, fun _ => hp, fun h => (h rfl).elim⟩

theorem Get_congr {d d' : api_Disk} {o : Int} (hd : smallD d) (hd' : smallD d') (h : thereN d o = thereN d' o) : chunk_Get d o = chunk_Get d' o := by
  unfold chunk_Get
  rw [p_there d o hd, p_there d' o hd', h]

theorem read_add_same {S L : List api_Page} {w : Bool} {a : Int} {x : List UInt8} (hw : ¬ w = true) (ha : mayN a 0) : readN ⟨S, L ++ [⟨a, x⟩], w⟩ a = (x, 0) := by
  unfold readN
  rw [if_neg hw, if_pos ha]
  simp
theorem read_add_other {S L : List api_Page} {w : Bool} {a o : Int} {x : List UInt8} (h : o ≠ a) : readN ⟨S, L ++ [⟨a, x⟩], w⟩ o = readN ⟨S, L, w⟩ o := by
  unfold readN
  have : (S ++ (L ++ [(⟨a, x⟩ : api_Page)])).reverse = ⟨a, x⟩ :: (S ++ L).reverse := by simp
  dsimp only
  rw [this, List.find?_cons]
  have hb : (a == o) = false := by simpa using fun e => h e.symm
  rw [hb]
theorem there_other {S L : List api_Page} {w : Bool} {a o : Int} {x : List UInt8} (h : o ≠ a) : thereN ⟨S, L ++ [⟨a, x⟩], w⟩ o = thereN ⟨S, L, w⟩ o := by
  unfold thereN
  rw [read_add_other h]

theorem packN_le {u : Nat} (j : Nat) (h : u < 128 ^ (j + 1)) : (packN u).length ≤ j + 1 := sevens_len 10 j u h
theorem nums5 : ∀ l : List Nat, (∀ x ∈ l, x < 4294967296) → (numsN (l.map Int.ofNat)).length ≤ 5 * l.length
  | [], _ => by simp [numsN]
  | n :: l, h => by
    have hn := h n (List.mem_cons_self ..)
    have hz : zig (Int.ofNat n) < 128 ^ (4 + 1) := by
      unfold zig
      show (if (n : Int) < 0 then _ else _) < _
      rw [if_neg (by omega)]
      show (2 * (n : Int)).toNat < 34359738368
      omega
    have h1 := packN_le 4 hz
    have h2 := nums5 l fun x hx => h x (List.mem_cons_of_mem _ hx)
    unfold numsN at h2 ⊢
    simp at h1 h2 ⊢; omega

theorem mayC_may {id : UInt8} {ver : Int} (hv : 0 ≤ ver ∧ ver ≤ 65535) (data : List UInt8) : mayP (mayC id ver data) ∧ (pageN (mayC id ver data)).length ≤ 200 := by
  have hw := id_within id
  unfold withinP at hw
  have hver : IntKind.i64.wrap ver = ver := IntWalk.i64_in _ ⟨by omega, by omega⟩
  have hl : (data.take 64).length ≤ 64 := by simp; omega
  have hb := blocksN_len (data.take 64)
  refine ⟨⟨hw, by show 0 ≤ IntKind.i64.wrap ver ∧ IntKind.i64.wrap ver ≤ _; rw [hver]; omega, hl, rfl⟩, ?_⟩
  unfold mayC
  rw [hver]
  generalize Int.tmod (id.toNat : Int) 200 = i at hw ⊢
  generalize data.take 64 = D at hl hb ⊢
  have z1 : (packN (zig i)).length ≤ 2 := packN_le 1 (by unfold zig; rw [if_neg (by omega)]; show _ < 16384; omega)
  have z2 : (packN (zig ver)).length ≤ 3 := packN_le 2 (by unfold zig; rw [if_neg (by omega)]; show _ < 2097152; omega)
  have z3 : (packN (zig D.length)).length ≤ 2 := packN_le 1 (by unfold zig; rw [if_neg (by omega)]; show _ < 16384; omega)
  have z4 : (packN (zig ((blocksN D).length : Int))).length ≤ 1 := packN_le 0 (by unfold zig; rw [if_neg (by omega)]; show _ < 128; omega)
  have z5 := nums5 (blocksN D) (blocksF_lt _ _)
  simp [pageN, bodyN, tailN, strN, intsN] at z5 ⊢
  omega

theorem l_ChunkBack (d : api_Disk) (id : UInt8) (ver : Int) (data : List UInt8) (other : UInt8) (h1 : ok_api_Disk d) (h2 : ok_u8 id) (h3 : ok_u16 ver) (h4 : okL_cU8 data) (h5 : ok_u8 other) : law25_ChunkBack d id ver data other = some true := by
  clear h1 h2 h4 h5
  refine Tot.eq ?_
  unfold law25_ChunkBack
  refine Tot.bindeq p_head (Tot.bind (R := fun b => b = false → modest d ∧ ¬ d.Down = true) ?_ fun b hb => Tot.ite (fun _ => Tot.ret rfl) fun hn => ?_)
  · exact Tot.bind (t_Great d) fun g hg => Tot.bind (R := fun b => b = false → modest d ∧ ¬ d.Down = true) (Tot.ite (fun _ => Tot.ret fun e => by cases e) fun hn => Tot.ret fun e => ⟨hg (by simpa using hn), by simp [e]⟩) fun _ h => Tot.ret h
  obtain ⟨hm, hup⟩ := hb (by simpa using hn)
  have hd := hm.small
  obtain ⟨hc, hpl⟩ := mayC_may (id := id) h3 data
  have hs := mayP_small hc
  refine Tot.bindeq (p_mayC id ver data) ?_
  have hw : withinP (mayC id ver data).Id := id_within id
  generalize mayC id ver data = c at *
  have hmn : ∀ n, n ≤ 200 → mayN c.Id n := fun n hn => by unfold withinP at hw; unfold mayN; omega
  obtain ⟨S, L, w⟩ := d
  have hup : ¬ w = true := hup
  have e1 : putN ⟨S, L, w⟩ c = (⟨S, L ++ [⟨c.Id, pageN c⟩], w⟩, 0) := by
    unfold putN writeN
    rw [if_pos hc, if_neg hup, if_pos (hmn _ hpl)]
  have hd1 : smallD ⟨S, L ++ [⟨c.Id, pageN c⟩], w⟩ := ⟨hd.1, by have := hm.2.1; simp at this ⊢; omega, fun p hp => by
    simp only [List.mem_append, List.mem_singleton] at hp
    rcases hp with hp | hp | hp
    · exact hd.2.2 p (List.mem_append.2 (.inl hp))
    · exact hd.2.2 p (List.mem_append.2 (.inr hp))
    · subst hp; show (pageN c).length ≤ 1000; omega⟩
  have hne : pageN c ≠ [] := fun e => by have := congrArg List.length e; simp [pageN, tailN] at this
  have t1 : thereN ⟨S, L ++ [⟨c.Id, pageN c⟩], w⟩ c.Id = (pageN c, 0) := by
    unfold thereN
    rw [if_pos hw, read_add_same hup (hmn 0 (by omega)), if_neg (fun h => hne h.2)]
  have e2 : loseN ⟨S, L ++ [⟨c.Id, pageN c⟩], w⟩ c.Id = (⟨S, (L ++ [⟨c.Id, pageN c⟩]) ++ [⟨c.Id, []⟩], w⟩, 0) := by
    unfold loseN writeN
    rw [t1, if_pos rfl, if_neg hup, if_pos (hmn _ (by simp))]
  have hd2 : smallD ⟨S, (L ++ [⟨c.Id, pageN c⟩]) ++ [⟨c.Id, []⟩], w⟩ := ⟨hd.1, by have := hm.2.1; simp at this ⊢; omega, fun p hp => by
    simp only [List.mem_append, List.mem_singleton] at hp
    rcases hp with hp | (hp | hp) | hp
    · exact hd.2.2 p (List.mem_append.2 (.inl hp))
    · exact hd.2.2 p (List.mem_append.2 (.inr hp))
    · subst hp; show (pageN c).length ≤ 1000; omega
    · subst hp; simp⟩
  have t2 : thereN ⟨S, (L ++ [⟨c.Id, pageN c⟩]) ++ [⟨c.Id, []⟩], w⟩ c.Id = ([], 41) := by
    unfold thereN
    rw [if_pos hw, read_add_same hup (hmn 0 (by omega)), if_pos ⟨rfl, rfl⟩]
  refine Tot.bindeq (p_Put _ c hd (by have := hs.2.2.2.1; omega)) ?_
  rw [e1]
  dsimp only
  refine Tot.bindeq (p_Get_there hd1 hc rfl t1) ?_
  refine Tot.bindeq (p_Lose _ c.Id hd1) ?_
  rw [e2]
  dsimp only
  refine Tot.bind (t_Get _ c.Id hd2) fun g7 hg7 => ?_
  rw [t2, if_neg (by decide)] at hg7
  refine Tot.bind (R := (· = false)) ?_ fun v hv => ?_
  · refine Tot.bindeq rfl (Tot.bind (R := (· = false)) (Tot.ite (fun h => absurd h (by decide)) fun _ => Tot.bind (p_Same c c ⟨by have := hs.2.2.1; omega, by have := hs.2.2.2.1; omega⟩) fun b hb => Tot.ret (by rw [hb.2 rfl]; rfl)) fun c3 h3 => ?_)
    subst h3
    rw [hg7]
    exact ⟨_, rfl, rfl⟩
  subst hv
  refine Tot.ite (fun h => absurd h (by decide)) fun _ => ?_
  have len1 := hasN_len ⟨S, L ++ [⟨c.Id, pageN c⟩], w⟩
  have len2 := hasN_len ⟨S, (L ++ [⟨c.Id, pageN c⟩]) ++ [⟨c.Id, []⟩], w⟩
  have len0 := hasN_len ⟨S, L, w⟩
  have m1 : decide (c.Id ∈ hasN ⟨S, L ++ [⟨c.Id, pageN c⟩], w⟩) = true := decide_eq_true (hasN_mem.2 ⟨hw, by rw [t1]⟩)
  have m2 : decide (c.Id ∈ hasN ⟨S, (L ++ [⟨c.Id, pageN c⟩]) ++ [⟨c.Id, []⟩], w⟩) = false := decide_eq_false fun h => by
    have := (hasN_mem.1 h).2
    rw [t2] at this
    exact absurd this (by decide)
  refine Tot.bind (R := (· = false)) ?_ fun v hv => ?_
  · refine Tot.bindeq (p_Has _ hd1) (Tot.bindeq (p_has _ _ (by omega)) ?_)
    rw [m1]
    refine Tot.bind (R := (· = false)) (Tot.ite (fun h => absurd h (by decide)) fun _ => Tot.bindeq (p_Has _ hd2) (Tot.bindeq (p_has _ _ (by omega)) (Tot.ret m2))) fun _ h => Tot.ret h
  subst hv
  refine Tot.ite (fun h => absurd h (by decide)) fun _ => ?_
  have hwo := id_within other
  generalize Int.tmod (other.toNat : Int) 200 = o at hwo ⊢
  refine Tot.ite (fun _ => Tot.ret rfl) fun hoi => ?_
  have hoi : o ≠ c.Id := by simpa using hoi
  have q1 : thereN ⟨S, L ++ [⟨c.Id, pageN c⟩], w⟩ o = thereN ⟨S, L, w⟩ o := there_other hoi
  have q2 : thereN ⟨S, (L ++ [⟨c.Id, pageN c⟩]) ++ [⟨c.Id, []⟩], w⟩ o = thereN ⟨S, L, w⟩ o := (there_other hoi).trans q1
  obtain ⟨g, hg, -, hgs, -⟩ := t_GetS ⟨S, L, w⟩ o hd
  have g1 : chunk_Get ⟨S, L ++ [⟨c.Id, pageN c⟩], w⟩ o = some g := by rw [Get_congr hd1 hd q1, hg]
  have g2 : chunk_Get ⟨S, (L ++ [⟨c.Id, pageN c⟩]) ++ [⟨c.Id, []⟩], w⟩ o = some g := by rw [Get_congr hd2 hd q2, hg]
  refine Tot.bindeq hg (Tot.bindeq g1 (Tot.bindeq g2 ?_))
  have same : Tot ((ref25_Same g.1 g.1).bind fun x => some x) (· = true) := Tot.bind (p_Same g.1 g.1 ⟨by omega, by omega⟩) fun b hb => Tot.ret (hb.2 rfl)
  have eqs : (g.2 == g.2) = true := by simp
  rw [eqs]
  refine Tot.bind (R := (· = true)) (Tot.bindeq (a := true) rfl (Tot.bind (R := (· = true)) (Tot.ite (fun _ => same) fun h => absurd rfl h) fun c8 h8 => ?_)) fun _ h => Tot.ret h
  subst h8
  refine Tot.bindeq (a := true) rfl (Tot.bind (R := (· = true)) (Tot.ite (fun _ => same) fun h => absurd rfl h) fun c10 h10 => ?_)
  subst h10
  refine Tot.bind (R := (· = true)) (Tot.ite (fun _ => Tot.bindeq (p_Has _ hd1) (Tot.bindeq (p_has _ _ (by omega)) (Tot.bindeq (p_Has _ hd) (Tot.bindeq (p_has _ _ (by omega)) (Tot.ret ?_))))) fun h => absurd rfl h) fun _ h => Tot.ret h
  have : decide (o ∈ hasN ⟨S, L ++ [⟨c.Id, pageN c⟩], w⟩) = decide (o ∈ hasN ⟨S, L, w⟩) := by
    apply decide_eq_decide.2
    rw [hasN_mem, hasN_mem, q1]
  rw [this]; simp
end Go.Proofs
