/- Chains, plain: an act, the first world, and all acts. No condition. -/
import Derived.Test.YtaaaipgdnofafaaGreatXChainTellsP26v
namespace Go.Proofs
set_option linter.all false
open Go Go.Cat
set_option linter.all false
def WW (w:law26_World) (k:Nat):Prop:=WOk w.C w.Disks w.Begun w.Ack w.Read k
section
variable {c:api_Chain} {D:List api_Disk} {beg ack rd:Int} {k:Nat}
theorem p_May (h:WOk c D beg ack rd k) (b a r:Int):law26_May ⟨c,D,b,a,r⟩=some true:=by
 refine Tot.eq ?_
 have hl:=h.ch.n
 obtain ⟨x,e,hx⟩:=r_Right c D (by omega)
 have:x=true:=hx.2 h.rightD
 subst this
 unfold law26_May
 refine Tot.bindeq e (Tot.bindeq (a:=true) (by rw [if_pos rfl,h.len]; rfl) (Tot.ret rfl))
theorem p_RightW (h:WOk c D beg ack rd k):chain_Right c D=some true:=by
 have hl:=h.ch.n
 obtain ⟨x,e,hx⟩:=p_Right c D (by omega)
 rw [e,hx.2 h.rightD]
theorem who_is (h:WOk c D beg ack rd k) (w:UInt8):isS D (Int.tmod (w.toNat:Int) 6):=by
 unfold isS
 rw [h.len,Int.tmod_eq_emod_of_nonneg (by omega)]
 omega
theorem w_do (h:WOk c D beg ack rd k) (hk:k≤99) (x:law26_Act) (hN:0≤x.N∧x.N≤65535):Tot (law26_Do ⟨c,D,beg,ack,rd⟩ x) (fun r=>r.2=true∧WW r.1 (k+1)):=by
 have hw:=who_is h x.Who
 have hwN:IntKind.i64.wrap x.N=x.N:=wrapi (by unfold InI64; omega)
 have hv:0≤c.Ver:=by have:=h.right.2.1.1.1.2; omega
 have hfw:=h.fineS hw
 have hl6:=h.len
 generalize Int.tmod (x.Who.toNat:Int) 6=who at hw hfw
 unfold law26_Do
 refine Tot.bindeq (p_May h _ _ _) (Tot.ncond (by simp) ?_)
 refine Tot.ite (fun _=>?_) fun _=>?_
 ·refine Tot.bindeq (p_CutC h.ch (by omega) hv _) ?_
  obtain ⟨h1,h2,-,-⟩:=w_cut h (by omega) (Int.tmod (x.Who.toNat:Int) 6)
  refine Tot.bindeq (a:=true) ?_ (Tot.ret ⟨rfl,h1⟩)
  rw [if_or,Option.bind_some,if_or]
  rcases h2 with h2 | ⟨h2 | h2,-,-⟩ <;> rw [h2] <;> rfl
 refine Tot.ite (fun _=>?_) fun _=>?_
 ·exact Tot.bindeq (p_MendC h.ch (by omega) h.ne _) (Tot.ret ⟨rfl,(w_mend h (by omega) _).1⟩)
 refine Tot.ite (fun _=>?_) fun _=>?_
 ·exact Tot.bindeq (p_PatchC h.ch (by omega) h.right.1.2 _) (Tot.ret ⟨rfl,(w_patch h (by omega) _).k1⟩)
 have hw':=who_is h x.Who
 have hf':=h.fineS hw'
 refine Tot.ite (fun _=>?_) fun _=>?_
 ·exact Tot.bindeq (at_idx hw') (Tot.bindeq (p_Crash7 hf' _) (Tot.bindeq (p_with D (by omega) _ _ hw') (Tot.ret ⟨rfl,(h.set hw' (hf'.down true) fun _ hx=>hx).k1⟩)))
 refine Tot.ite (fun _=>?_) fun _=>?_
 ·exact Tot.bindeq (at_idx hw') (Tot.bindeq (p_Up7 hf') (Tot.bindeq (p_with D (by omega) _ _ hw') (Tot.ret ⟨rfl,(h.set hw' (hf'.down false) fun _ hx=>hx).k1⟩)))
 refine Tot.ite (fun _=>?_) fun _=>?_
 ·refine Tot.bindeq (at_idx hw') (Tot.bindeq (h.ch.getr (by omega) hw' 7) (Tot.ite (fun _=>Tot.ret ⟨rfl,h.k1⟩) fun e=>?_))
  have hz:(getN (atS D (Int.tmod (x.Who.toNat:Int) 6)) 7).2=0:=by simpa using e
  obtain ⟨hd,v,y,hh,-⟩:=get_of hf' hz
  rw [hwN]
  have hb:0≤Int.tmod x.N 600∧Int.tmod x.N 600 < 1000:=by rw [Int.tmod_eq_emod_of_nonneg hN.1]; omega
  refine Tot.bindeq (at_idx hw') (Tot.bind (p_Rot7 hf' hd hh hb.1 hb.2) fun r hr=>Tot.bindeq (p_with D (by omega) _ _ hw') (Tot.ret ⟨rfl,?_⟩))
  rcases hr with rfl | ⟨hr,_,q,hq,hbad⟩
  ·exact (h.set hw' hf' fun _ hx=>hx).k1
  ·exact (h.set hw' hr fun z hz=>by
    have:=hz.1
    rw [hq] at this
    injection this with this _
    injection this with _ this
    exact (hbad.2.2 _ this.symm).elim).k1
 refine Tot.ite (fun _=>?_) fun _=>?_
 ·refine Tot.bindeq (p_ReadC h.ch (by omega) h.ne) ?_
  rcases w_read h (by omega) with ⟨h1,h2⟩ | ⟨h1,n,hn,h2,g1,g2,g3,hh,_⟩
  ·exact Tot.cond (by simpa using h1) (Tot.ret ⟨by simp [h2],h.k1⟩)
  ·refine Tot.ncond (by simp [h1]) ?_
   rw [h2]
   refine Tot.bindeq (p_which n hn) (Tot.bindeq (a:=true) ?_ (Tot.ret ⟨rfl,(w_read2 h (by omega) hn hh g1).k1⟩))
   have a1:decide ((n:Int)≥ack)=true:=by simp; exact g2
   have a2:decide ((n:Int)≥rd)=true:=by simp; exact g3
   have a3:decide ((n:Int)≤beg)=true:=by simp; exact g1
   rw [a1,a2,a3]; rfl
 ·have hb2:=h.b2; have hb3:=h.b3
  have hb:beg+1=(((beg+1).toNat:Nat):Int):=by omega
  refine Tot.chk (by unfold InI64; dsimp only; omega) (Tot.bindeq (a:=bytesN (beg+1).toNat) ?_ (Tot.bindeq (p_WriteC h.ch (by omega) _ _) (Tot.bindeq (a:=if (writeC c D (bytesN (beg+1).toNat) (Int.tmod (IntKind.i64.wrap x.N) 7)).2=true then beg+1 else ack) ?_ (Tot.ret ⟨rfl,?_⟩))))
  ·show law26_bytes (beg+1)=_
   conv=>lhs; rw [hb]
   exact p_bytes _ (by omega)
  ·split <;> rfl
  ·exact w_write h (by omega) _
end
def srvN (m:Nat):List Int:=(List.range m).map fun (i:Nat)=>(i:Int)
theorem srvN_mem {m:Nat} {s:Int}:s∈srvN m↔0≤s∧s < (m:Int):=by
 unfold srvN
 rw [List.mem_map]
 constructor
 ·rintro ⟨i,hi,rfl⟩; have:=List.mem_range.1 hi; omega
 ·rintro ⟨h1,h2⟩; exact ⟨s.toNat,List.mem_range.2 (by omega),by omega⟩
theorem srvN_nodup (m:Nat):(srvN m).Nodup:=by
 unfold srvN List.Nodup
 rw [List.pairwise_map]
 exact (List.pairwise_lt_range (n:=m)).imp fun {a b} h=>by omega
def newD:api_Disk:=⟨[],[],false⟩
theorem newD_fine:Fine newD:=⟨rfl,.inl rfl⟩
theorem t_Fresh (len : UInt8) : Tot (law26_Fresh len) (fun w => WW w 0) := by
  unfold law26_Fresh law26N5
  have hm : Int.tmod (len.toNat : Int) 5 = ((len.toNat % 5 : Nat) : Int) := by rw [Int.tmod_eq_emod_of_nonneg (by omega)]; omega
  refine Tot.bind (R := fun v : List Int × List api_Disk => v = (srvN (len.toNat % 5 + 1), List.replicate 6 newD)) ?_ fun v hv => ?_
  · refine Tot.loop (fun s : Int × List Int × List api_Disk => ∃ j : Nat, s.1 = j ∧ j ≤ 6 ∧ s.2.1 = srvN (min j (len.toNat % 5 + 1)) ∧ s.2.2 = List.replicate j newD) (fun s => 7 - s.1.toNat) ?_ _ ⟨0, rfl, by omega, rfl, rfl⟩
    rintro ⟨i, a, b⟩ ⟨j, rfl, hj, rfl, rfl⟩
    unfold law26N4
    dsimp only
    rw [hm]
    have hl1 : (srvN (min j (len.toNat % 5 + 1))).length ≤ 6 := by unfold srvN; simp; omega
    refine Tot.ite (fun e => ?_) fun e => ?_
    · have hlt : j < 6 := by simp at e; omega
      refine Tot.bind (R := fun v : List Int × List api_Disk => v = (srvN (min (j + 1) (len.toNat % 5 + 1)), List.replicate (j + 1) newD)) (Tot.bindeq (a := newD) rfl (Tot.chk (by simp; omega) (Tot.chk (by unfold InI64; omega) ?_))) fun v hv => ?_
      · have er : List.replicate j newD ++ [newD] = List.replicate (j + 1) newD := by rw [List.replicate_succ']
        rw [er]
        refine Tot.ite (fun e2 => Tot.chk (by simp only [List.length_cons, List.length_nil]; omega) (Tot.ret ?_)) fun e2 => Tot.ret ?_
        · have h2 : j < len.toNat % 5 + 1 := by simp at e2; omega
          rw [show min j (len.toNat % 5 + 1) = j by omega, show min (j + 1) (len.toNat % 5 + 1) = j + 1 by omega]
          unfold srvN
          rw [List.range_succ, List.map_append]; rfl
        · have h2 : ¬ j < len.toNat % 5 + 1 := by simp at e2; omega
          rw [show min j (len.toNat % 5 + 1) = min (j + 1) (len.toNat % 5 + 1) by omega]
      · subst hv
        exact Tot.chk (by unfold InI64; omega) (Tot.inl ⟨⟨j + 1, rfl, hlt, rfl, rfl⟩, by show 7 - ((j : Int) + 1).toNat < 7 - (j : Int).toNat; omega⟩)
    · have : j = 6 := by simp at e; omega
      subst this
      exact Tot.out (Tot.ret (by rw [show min 6 (len.toNat % 5 + 1) = len.toNat % 5 + 1 by omega]))
  · subst hv
    have hmm : len.toNat % 5 < 5 := Nat.mod_lt _ (by omega)
    generalize len.toNat % 5 = m at hmm
    dsimp only
    have hD6 : (List.replicate 6 newD).length = 6 := List.length_replicate
    have hfine : ∀ d, d ∈ List.replicate 6 newD → Fine d := fun d hd => by rw [(List.mem_replicate.1 hd).2]; exact newD_fine
    have hf : FitD (List.replicate 6 newD) 1 := ⟨by omega, fun d hd => (hfine d hd).fit⟩
    have hl : (srvN (m + 1)).length = m + 1 := by unfold srvN; simp
    have hb := bytesN_len 0
    have hR : RightP ⟨7, 1, srvN (m + 1)⟩ 6 := ⟨⟨fun s hs => by have := srvN_mem.1 hs; omega, srvN_nodup _⟩, ⟨⟨⟨by dsimp only; omega, by dsimp only; omega⟩, by dsimp only; omega⟩, by dsimp only; omega⟩, by dsimp only; omega⟩
    have hS : ∀ s, s ∈ srvN (m + 1) → isS (List.replicate 6 newD) s := fun s hs => by have := hR.1.1 s hs; unfold isS; rw [hD6]; exact this
    have hup : ∀ s, s ∈ srvN (m + 1) → (atS (List.replicate 6 newD) s).Down = false := fun s hs => by
      have := at_mem (hS s hs)
      rw [(List.mem_replicate.1 this).2]; rfl
    have e : makeC 7 (srvN (m + 1)) (List.replicate 6 newD) (bytesN 0) = (⟨7, 1, srvN (m + 1)⟩, layAll (newC 7 1 (bytesN 0)) (List.replicate 6 newD) (srvN (m + 1)), 0) := by
      unfold makeC
      rw [if_neg (by rw [hD6]; rintro (h | h); exact h hR; omega), if_neg (by
        rw [Bool.not_eq_true, List.any_eq_false]
        intro s hs h
        have h2 : (atS (List.replicate 6 newD) s).Down = true := h
        rw [hup s hs] at h2; cases h2)]
    refine Tot.bindeq (a := bytesN 0) (p_bytes 0 (by omega)) (Tot.bindeq (p_MakeC hf (by omega) 7 (by omega) (by omega)) (Tot.ret ?_))
    rw [e]
    have hm1 : mayP (newC 7 1 (bytesN 0)) := newC_may (by omega) (by omega) (by omega)
    have hfl := fine_layAll hm1 hS hfine
    have hall : ∀ s, s ∈ srvN (m + 1) → HasS (layAll (newC 7 1 (bytesN 0)) (List.replicate 6 newD) (srvN (m + 1))) s 1 (bytesN 0) := fun s hs => has_layAll hm1 hS hfine s hs (hup s hs)
    have hfS : ∀ s, s ∈ srvN (m + 1) → Fine (atS (layAll (newC 7 1 (bytesN 0)) (List.replicate 6 newD) (srvN (m + 1))) s) := fun s hs => hfl _ (at_mem (layAll_isS.2 (hS s hs)))
    exact { id := rfl, right := hR, len := by rw [layAll_len]; exact hD6, fine := hfl, ver := by show (1 : Int) ≤ _; omega, b0 := by show (0 : Int) ≤ 0; omega, b1 := by show (0 : Int) ≤ 0; omega, b2 := by show (0 : Int) ≤ _; omega, b3 := by show (0 : Int) ≤ 0; omega,
            num := fun s x hs hx => ⟨0, (has_inj (hfS s hs) hx (hall s hs)).2, by show ((0 : Nat) : Int) ≤ 0; omega, by show (0 : Int) ≤ ((0 : Nat) : Int); omega, by show (0 : Int) ≤ ((0 : Nat) : Int); omega⟩,
            mono := fun i j s t n m' hij hs ht hn hm' h1 h2 => by
              have a2 := bytes_inj hm' (by omega) (has_inj (hfS t (List.mem_of_getElem? ht)) h2 (hall t (List.mem_of_getElem? ht))).2
              omega }
def VV (v:Int×Int×List Int×List api_Disk×Int×Int×Int) (k:Nat):Prop:=WOk ⟨v.1,v.2.1,v.2.2.1⟩ v.2.2.2.1 v.2.2.2.2.1 v.2.2.2.2.2.1 v.2.2.2.2.2.2 k
theorem t_acts (l:List law26_Act) (hl:l.length≤50) (hx:∀x,x∈l→ok_law26_Act x) {w:law26_World} (hw:WW w 0):Tot (law26N3 l (0,w.C.Id,w.C.Ver,w.C.Servers,w.Disks,w.Begun,w.Ack,w.Read)) (fun v=>VV v l.length):=by
 unfold law26N3
 refine Tot.eachG (l:=l) (fun s:Int×Int×Int×List Int×List api_Disk×Int×Int×Int=>s.1) (fun k s=>VV s.2 k) (fun k x a hlt hxk hc ha=>?_) (fun a hc ha=>?_) _ rfl hw
 ·obtain ⟨a1,a2⟩:=a
  dsimp only at hc ha
  subst hc
  unfold law26N2
  refine Tot.cond (by simp; omega) (Tot.bindeq (idx_some hxk) (Tot.bind (w_do ha (by omega) x (hx x (List.mem_of_getElem? hxk)).2.2) fun r hr=>Tot.chk (by unfold InI64; dsimp only; omega) (Tot.inl ⟨rfl,hr.2⟩)))
 ·obtain ⟨a1,a2⟩:=a
  dsimp only at hc ha
  subst hc
  unfold law26N2
  exact Tot.ncond (by simp) (Tot.out (Tot.ret ha))
end Go.Proofs
