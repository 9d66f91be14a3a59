/- Chunks, plain: the program does what the reference does. No condition. -/
import Derived.Test.YtkbkfcehehofnaaXChunkTellsP25n
namespace Go.Proofs
set_option linter.all false
open Go Go.Cat

theorem u_GetS (d : api_Disk) (id : Int) (hd : smallD d) (hu : uniq d.Synced) : Tot (ref25_Get d id) (fun r => (if (thereN d id).2 = 0 then r.2 = 0 ∨ r.2 = 251 else r.2 = (thereN d id).2) ∧ (r.2 = 0 → mayP r.1 ∧ r.1.Id = id ∧ pageN r.1 = (thereN d id).1) ∧ (r.2 ≠ 0 → r.1 = ⟨0, 0, [], []⟩)) := by
  unfold ref25_Get
  refine Tot.bind (R := Tells (¬ withinP id)) (Tot.bind (R := Tells (id < 0 ∨ 199 < id)) (Tot.orI (by simp) fun _ => Tot.dec (by omega)) fun _ h => Tot.ret (h.trans (by unfold withinP; omega))) fun v hv => Tot.ite (fun ht => ?_) fun hf => ?_
  · have t : thereN d id = ([], 1) := by unfold thereN; rw [if_neg (hv.1 ht)]
    rw [t]
    exact Tot.ret ⟨by rw [if_neg (by decide)], fun h => absurd h (by decide), fun _ => rfl⟩
  have hw : withinP id := Classical.byContradiction fun h => hf (hv.2 h)
  refine Tot.bindeq (r_Read d id hd hu) ?_
  have hl := readN_len hd id
  have h251 : (251 : Int) = 0 → False := by decide
  by_cases hz : (readN d id).2 = 0
  · refine Tot.ite (fun h => absurd hz (by simpa using h)) fun _ => ?_
    by_cases he : (readN d id).1 = []
    · have t : thereN d id = ([], 41) := by unfold thereN; rw [if_pos hw, if_pos ⟨hz, he⟩]
      rw [t]
      refine Tot.ite (fun _ => Tot.ret ⟨by rw [if_neg (by decide)], fun h => absurd h (by decide), fun _ => rfl⟩) (fun h => absurd (by rw [he]; rfl) h)
    · have t : thereN d id = readN d id := by unfold thereN; rw [if_pos hw, if_neg (fun h => he h.2)]
      rw [t]
      simp only [if_pos hz]
      refine Tot.ite (fun h => absurd (by simpa using h) he) fun _ => ?_
      refine Tot.ite (fun _ => Tot.ret ⟨.inr rfl, fun h => (h251 h).elim, fun _ => rfl⟩) fun h4 => ?_
      have h4 : 4 ≤ (readN d id).1.length := by simp at h4; omega
      refine Tot.chk (by unfold InI64; omega) (Tot.chk (by omega) ?_)
      refine Tot.bind (u_parsed _ (by simp; omega)) fun r hr => ?_
      have hr : r.1.Sums.length ≤ 1000 := Nat.le_trans hr (by simp; omega)
      refine Tot.bind (R := fun v => v = false → mayP r.1 ∧ r.1.Id = id ∧ pageN r.1 = (readN d id).1) ?_ fun v hv => Tot.ite (fun _ => Tot.ret ⟨.inr rfl, fun h => (h251 h).elim, fun _ => rfl⟩) (fun hn => ?_)
      · refine Tot.bind (R := fun c => c = false → mayP r.1) ?_ fun c1 hc1 => ?_
        · refine Tot.ite (fun hx => Tot.ret fun e => by cases e) fun hx => Tot.bind (r_May r.1 (by omega)) fun b hb => Tot.ret fun hh => hb.1 (by simpa using hh)
        refine Tot.bind (R := fun c => c = false → mayP r.1 ∧ r.1.Id = id) (Tot.ite (fun _ => Tot.ret fun e => by cases e) fun hc => Tot.ret fun e => ⟨hc1 (by simpa using hc), by simpa using e⟩) fun c2 hc2 => ?_
        refine Tot.bind (R := fun c => c = false → mayP r.1 ∧ r.1.Id = id ∧ pageN r.1 = (readN d id).1) (Tot.ite (fun _ => Tot.ret fun e => by cases e) fun hc => ?_) fun c3 h => Tot.ret h
        have hp := hc2 (by simpa using hc)
        refine Tot.bindeq (r_Page _ (mayP_small hp.1)) (Tot.bind (p_RBytes _ _ (by have := pageN_len (mayP_small hp.1); omega)) fun b hb => Tot.ret fun e => ⟨hp.1, hp.2, hb.1 (by simpa using e)⟩)
      · exact Tot.ret ⟨.inl rfl, fun _ => hv (by simpa using hn), fun h => (h rfl).elim⟩
  · have t : thereN d id = readN d id := by unfold thereN; rw [if_pos hw, if_neg (fun h => hz h.1)]
    rw [t]
    simp only [if_neg hz]
    exact Tot.ite (fun _ => Tot.ret ⟨rfl, fun h => (hz h).elim, fun _ => rfl⟩) (fun h => absurd (by simpa using h) hz)

theorem r_Get_there {d : api_Disk} {id : Int} (hd : smallD d) (hu : uniq d.Synced) {c : api_Copy} (hc : mayP c) (hi : c.Id = id) (ht : thereN d id = (pageN c, 0)) : ref25_Get d id = some (c, 0) := by
  refine Tot.eq ?_
  have hs := mayP_small hc
  have hb := bodyN_len hs
  have hpl : (pageN c).length = (bodyN c).length + 4 := by simp [pageN, tailN]
  have hw : withinP id := by rw [← hi]; exact hc.1
  have hrd : readN d id = (pageN c, 0) := by
    unfold thereN at ht
    rw [if_pos hw] at ht
    split at ht
    · exact absurd (show (41 : Int) = 0 from congrArg Prod.snd ht) (by decide)
    · exact ht
  unfold ref25_Get
  refine Tot.bind (R := Tells (id < 0 ∨ 199 < id)) (Tot.bind (Tot.orI (by simp) fun _ => Tot.dec (by omega)) fun _ h => Tot.ret h) fun v hv => Tot.ite (fun ht => absurd (hv.1 ht) (by unfold withinP at hw; omega)) fun hf => ?_
  refine Tot.bindeq (r_Read d id hd hu) ?_
  rw [hrd]
  refine Tot.ite (fun h => absurd h (by simp)) fun _ => Tot.ite (fun h => absurd (eq_of_beq h) (by dsimp only; omega)) fun _ => Tot.ite (fun h => absurd (of_decide_eq_true h) (by dsimp only; omega)) fun _ => ?_
  dsimp only
  refine Tot.chk (by unfold InI64; omega) (Tot.chk (by omega) ?_)
  have htk : (pageN c).take (((pageN c).length : Int) - 4).toNat = bodyN c := by
    have : (((pageN c).length : Int) - 4).toNat = (bodyN c).length := by omega
    rw [this]; simp [pageN]
  rw [htk]
  refine Tot.bindeq (r_parsed c hs) ?_
  dsimp only
  refine Tot.bind (R := (· = false)) ?_ fun v hv => by subst hv; exact Tot.ite (fun h => absurd h (by decide)) fun _ => Tot.ret rfl
  refine Tot.bind (R := (· = false)) (Tot.ite (fun h => absurd h (by decide)) fun _ => Tot.bind (r_May c (by have := hs.2.2.2.1; omega)) fun b hb => Tot.ret (by rw [hb.2 hc]; rfl)) fun c1 h1 => ?_
  subst h1
  refine Tot.bind (R := (· = false)) (Tot.ite (fun h => absurd h (by decide)) fun _ => Tot.ret (by rw [hi]; simp)) fun c2 h2 => ?_
  subst h2
  refine Tot.bind (R := (· = false)) (Tot.ite (fun h => absurd h (by decide)) fun _ => Tot.bindeq (r_Page c hs) (Tot.bind (p_RBytes _ _ (by have := pageN_len hs; omega)) fun b hb => Tot.ret (by rw [hb.2 rfl]; rfl))) fun c3 h3 => Tot.ret h3

theorem Get_same (d : api_Disk) (id : Int) (hd : smallD d) (hu : uniq d.Synced) : ∃ g : api_Copy × Int, chunk_Get d id = some g ∧ ref25_Get d id = some g ∧ g.1.Data.length ≤ 1000 ∧ g.1.Sums.length ≤ 1000 := by
  obtain ⟨g, hg, g1, g2, g3, g4⟩ := t_GetS d id hd
  obtain ⟨h, hh, h1, h3, h4⟩ := u_GetS d id hd hu
  refine ⟨g, hg, ?_, g2.1, g2.2⟩
  by_cases hz : (thereN d id).2 = 0
  · rw [if_pos hz] at g1 h1
    by_cases hg0 : g.2 = 0
    · obtain ⟨m1, m2, m3⟩ := g3 hg0
      have := r_Get_there hd hu m1 m2 (by rw [m3, ← hz])
      rw [this]
      obtain ⟨ga, gb⟩ := g
      have hg0 : gb = 0 := hg0
      rw [hg0]
    · by_cases hh0 : h.2 = 0
      · obtain ⟨m1, m2, m3⟩ := h3 hh0
        have := p_Get_there hd m1 m2 (by rw [m3, ← hz])
        rw [hg] at this
        have := Option.some.inj this
        rw [this] at hg0
        exact (hg0 rfl).elim
      · have e1 := g4 hg0
        have e2 := h4 hh0
        rw [hh]
        obtain ⟨ga, gb⟩ := g
        obtain ⟨ha, hb⟩ := h
        have e1 : ga = _ := e1
        have e2 : ha = _ := e2
        have g1 : gb = 0 ∨ gb = 251 := g1
        have h1 : hb = 0 ∨ hb = 251 := h1
        have hg0 : ¬ gb = 0 := hg0
        have hh0 : ¬ hb = 0 := hh0
        have : hb = gb := by omega
        rw [e1, e2, this]
  · rw [if_neg hz] at g1 h1
    have e1 := g4 (by rw [g1]; exact hz)
    have e2 := h4 (by rw [h1]; exact hz)
    rw [hh]
    obtain ⟨ga, gb⟩ := g
    obtain ⟨ha, hb⟩ := h
    have e1 : ga = _ := e1
    have e2 : ha = _ := e2
    have g1 : gb = _ := g1
    have h1 : hb = _ := h1
    rw [e1, e2, g1, h1]

theorem write_pages {d : api_Disk} (hd : modest d) {a : Int} {x : List UInt8} (hx : x.length ≤ 100000) : (writeN d a x).1.Synced.length ≤ 100000 ∧ (writeN d a x).1.Loose.length ≤ 100000 ∧ ∀ p ∈ (writeN d a x).1.Synced ++ (writeN d a x).1.Loose, p.Data.length ≤ 1000000 := by
  obtain ⟨h1, h2, h3⟩ := hd
  have base : d.Synced.length ≤ 100000 ∧ d.Loose.length ≤ 100000 ∧ ∀ p ∈ d.Synced ++ d.Loose, p.Data.length ≤ 1000000 := ⟨by omega, by omega, fun p hp => by have := h3 p hp; omega⟩
  unfold writeN
  split
  · exact base
  · split
    · refine ⟨base.1, by simp; omega, fun p hp => ?_⟩
      simp only [List.mem_append, List.mem_singleton] at hp
      rcases hp with hp | hp | hp
      · exact base.2.2 p (List.mem_append.2 (.inl hp))
      · exact base.2.2 p (List.mem_append.2 (.inr hp))
      · subst hp; show x.length ≤ 1000000; omega
    · exact base

theorem l_ChunkTells (d : api_Disk) (c : api_Copy) (id : Int) : law25_ChunkTells d c id = some true := by
  refine Tot.eq ?_
  unfold law25_ChunkTells
  refine Tot.bindeq p_head (Tot.bind (R := fun b => b = false → (modest d ∧ uniq d.Synced) ∧ c.Data.length ≤ 100 ∧ c.Sums.length ≤ 40) (Tot.bind (t_GreatU d) fun g hg => Tot.bind (R := fun b => b = false → (modest d ∧ uniq d.Synced) ∧ c.Data.length ≤ 100 ∧ c.Sums.length ≤ 40) (Tot.ite (fun _ => Tot.ret fun e => by cases e) fun hn => Tot.bind (t_big c) fun b hb => Tot.ret fun e => ⟨hg (by simpa using hn), ?_⟩) fun _ h => Tot.ret h) fun b hb => Tot.ite (fun _ => Tot.ret rfl) fun hn => ?_)
  · have hno : ¬ (100 < c.Data.length ∨ 40 < c.Sums.length) := fun hh => by rw [hb.2 hh] at e; cases e
    omega
  obtain ⟨⟨hm, hu⟩, hcd, hcs⟩ := hb (by simpa using hn)
  have hd := hm.small
  have base : d.Synced.length ≤ 100000 ∧ d.Loose.length ≤ 100000 ∧ ∀ p ∈ d.Synced ++ d.Loose, p.Data.length ≤ 1000000 := ⟨by have := hm.1; omega, by have := hm.2.1; omega, fun p hp => by have := hm.2.2 p hp; omega⟩
  have putP : ref25_SameDisk (putN d c).1 (putN d c).1 = some true := by
    have : (putN d c).1.Synced.length ≤ 100000 ∧ (putN d c).1.Loose.length ≤ 100000 ∧ ∀ p ∈ (putN d c).1.Synced ++ (putN d c).1.Loose, p.Data.length ≤ 1000000 := by
      unfold putN
      split
      · rename_i hc
        exact write_pages hm (by have := pageN_len (mayP_small hc); omega)
      · exact base
    exact r_SameDisk _ this.1 this.2.1 this.2.2
  have loseP : ref25_SameDisk (loseN d id).1 (loseN d id).1 = some true := by
    have : (loseN d id).1.Synced.length ≤ 100000 ∧ (loseN d id).1.Loose.length ≤ 100000 ∧ ∀ p ∈ (loseN d id).1.Synced ++ (loseN d id).1.Loose, p.Data.length ≤ 1000000 := by
      unfold loseN
      split
      · exact write_pages hm (by simp)
      · exact base
    exact r_SameDisk _ this.1 this.2.1 this.2.2
  obtain ⟨g, hg1, hg2, hgl⟩ := Get_same d id hd hu
  refine Tot.bindeq (p_Put d c hd (by omega)) (Tot.bindeq (r_Put d c hd (by omega)) (Tot.bindeq hg1 (Tot.bindeq hg2 (Tot.bindeq (p_Lose d id hd) (Tot.bindeq (r_Lose d id hd hu) ?_)))))
  have hlen := hasN_len d
  have hbl := blocksN_len c.Data
  refine Tot.bind (R := (· = true)) ?_ fun v h => Tot.ret h
  refine Tot.bind (R := (· = true)) (Tot.ite (fun _ => Tot.ret (by simp)) fun h => absurd rfl h) fun c2 h2 => ?_
  subst h2
  refine Tot.bind (R := (· = true)) (Tot.ite (fun _ => Tot.bindeq putP (Tot.ret rfl)) fun h => absurd rfl h) fun c3 h3 => ?_
  subst h3
  refine Tot.bind (R := (· = true)) (Tot.ite (fun _ => Tot.ret (by simp)) fun h => absurd rfl h) fun c4 h4 => ?_
  subst h4
  refine Tot.bind (R := (· = true)) (Tot.ite (fun _ => Tot.bind (p_Same g.1 g.1 ⟨by omega, by omega⟩) fun b hb => Tot.ret (hb.2 rfl)) fun h => absurd rfl h) fun c5 h5 => ?_
  subst h5
  refine Tot.bind (R := (· = true)) (Tot.ite (fun _ => Tot.ret (by simp)) fun h => absurd rfl h) fun c6 h6 => ?_
  subst h6
  refine Tot.bind (R := (· = true)) (Tot.ite (fun _ => Tot.bindeq loseP (Tot.ret rfl)) fun h => absurd rfl h) fun c7 h7 => ?_
  subst h7
  refine Tot.bind (R := (· = true)) (Tot.ite (fun _ => Tot.bindeq (p_Has d hd) (Tot.bindeq (r_Has d hd hu) (Tot.bind (p_RInts _ _ (by omega)) fun b hb => Tot.ret (hb.2 rfl)))) fun h => absurd rfl h) fun c8 h8 => ?_
  subst h8
  refine Tot.bind (R := (· = true)) (Tot.ite (fun _ => Tot.bindeq (p_New id c.Ver c.Data (by omega)) (Tot.bindeq (r_New id c.Ver c.Data (by omega)) (Tot.bind (p_Same _ _ ⟨by dsimp only; omega, by simp; omega⟩) fun b hb => Tot.ret (hb.2 rfl)))) fun h => absurd rfl h) fun c9 h9 => Tot.ret h9
end Go.Proofs
