/- Shots, plain: what moves, and what any step makes of a tree. No condition. -/
import Derived.Test.YthkdflbnmbnbaaaGreatXShotRightP10b
namespace Go.Proofs
set_option linter.all false
open Go Go.Cat
set_option linter.all false
section
variable {B:Nat} {t:api_Tree}
def mvY (t:api_Tree) (to:Int) (asn:List UInt8):Int:=match (dirP t.Nodes to).1.Ents.find? (fun e=>e.Name == asn) with | some e=>e.Ino | none=>0
def mvFull (t:api_Tree) (i from_ to y:Int):Bool:=(((y == 0)&&(to != from_))&&decide (((dirP t.Nodes to).1.Ents.length:Int)≥64))||decide ((depN t.Nodes 201 to:Int)≥12)||((gD t.Nodes i).Kind == 2&&decide (highP t.Nodes i ((depN t.Nodes 201 to:Int)+1) > 12))||decide (t.Cookie≥1099511627776)
def mvT (t:api_Tree) (i from_:Int) (s:List UInt8) (to:Int) (asn:List UInt8) (y:Int):api_Tree:=if (y != 0)=true then unT (lefT (lefT t from_ s) to asn) y else lefT t from_ s
def mvU (t u:api_Tree) (i to:Int):api_Tree:=if ((gD t.Nodes i).Kind == 2)=true then ⟨putL ⟨(gD t.Nodes i).Ino,(gD t.Nodes i).Kind,(gD t.Nodes i).Links,(gD t.Nodes i).Data,(gD t.Nodes i).Ents,to⟩ u.Nodes,u.Next,u.Cookie⟩ else u
def mvP (t:api_Tree) (from_:Int) (s:List UInt8) (to:Int) (asn:List UInt8):api_Tree×Int×Int :=
 if ((lookP t from_ s).2 != 0)=true then (t,0,(lookP t from_ s).2) else if ((dirP t.Nodes to).2 != 0)=true then (t,0,(dirP t.Nodes to).2) else if (!nameR asn)=true then (t,0,60)
 else if (mvY t to asn == (lookP t from_ s).1)=true then (t,0,0)
 else if ((gD t.Nodes (lookP t from_ s).1).Kind == 2&&belP t.Nodes to (lookP t from_ s).1)=true then (t,0,75)
 else if (clashP t (gD t.Nodes (lookP t from_ s).1) (mvY t to asn) != 0)=true then (t,0,clashP t (gD t.Nodes (lookP t from_ s).1) (mvY t to asn))
 else if mvFull t (lookP t from_ s).1 from_ to (mvY t to asn)=true then (t,0,76)
 else (entT (mvU t (mvT t (lookP t from_ s).1 from_ s to asn (mvY t to asn)) (lookP t from_ s).1 to) to asn (lookP t from_ s).1,mvY t to asn,0)
theorem TF.mvT (h:TF B t) (i from_:Int) (s:List UInt8) (to:Int) (asn:List UInt8) (y:Int):TF (B+3) (mvT t i from_ s to asn y):=by
 unfold Go.Proofs.mvT
 split
 ·exact ((h.lef from_ s).lef to asn).un y
 ·exact (h.lef from_ s).up (by omega)
theorem TF.mvU {C:Nat} {u:api_Tree} (h:TF B t) (hu:TF C u) (hC:B≤C) (i to:Int):TF (C+1) (mvU t u i to):=by
 have h1:=h.gE i; have h2:=h.gL i; have h3:=hu.c; have h4:=hu.x
 unfold Go.Proofs.mvU
 split
 ·exact hu.put (by dsimp only; omega) (by dsimp only; omega) (by omega) (by omega)
 ·exact hu.up (by omega)
theorem r_mvFull (h:TF B t) (hB:B≤90000) (i from_ to y:Int):((if (y == 0)=true then some (to != from_) else some false).bind fun c2=>(if c2=true then some (decide (((dirP t.Nodes to).1.Ents.length:Int)≥64)) else some false).bind fun c3=>(if c3=true then some true else some (decide ((depN t.Nodes 201 to:Int)≥12))).bind fun c4=>(if c4=true then some true else (if ((gD t.Nodes i).Kind == 2)=true then chk (InI64 ((depN t.Nodes 201 to:Int)+1)) ((ref07_high t i ((depN t.Nodes 201 to:Int)+1)).bind fun x10=>some (decide (x10 > 12))) else some false).bind fun c5=>some c5).bind fun c6=>(if c6=true then some true else some (decide (t.Cookie≥1099511627776))).bind fun c7=>some c7)=some (mvFull t i from_ to y):=by
 have hd:=depN_le t.Nodes 201 to
 unfold mvFull
 rw [ba (b:=to != from_) (fun _=>rfl),Option.bind_some,ba (b:=decide (((dirP t.Nodes to).1.Ents.length:Int)≥64)) (fun _=>rfl),Option.bind_some,bo (b:=decide ((depN t.Nodes 201 to:Int)≥12)) (fun _=>rfl),Option.bind_some]
 rw [bo (b:=(gD t.Nodes i).Kind == 2&&decide (highP t.Nodes i ((depN t.Nodes 201 to:Int)+1) > 12)) (fun _=>?_),Option.bind_some,bo (b:=decide (t.Cookie≥1099511627776)) (fun _=>rfl),Option.bind_some]
 rw [ba (b:=decide (highP t.Nodes i ((depN t.Nodes 201 to:Int)+1) > 12)) (fun _=>?_),Option.bind_some]
 rw [chk_pos (by unfold InI64; omega),r_high h (by omega) _ _ (by omega),Option.bind_some]
theorem r_Mv (h:TF B t) (hB:B≤90000) (from_:Int) (s:List UInt8) (to:Int) (asn:List UInt8):ref07_Mv t from_ s to asn=some (mvP t from_ s to asn):=by
 have h1:=h.n; have h2:=dir_ents h to
 unfold ref07_Mv mvP
 rw [r_Look h (by omega),Option.bind_some]
 split
 ·rfl
 rw [r_dir t to (by omega),Option.bind_some]
 split
 ·rfl
 rw [r_name,Option.bind_some]
 split
 ·rfl
 rw [r_named _ _ (by omega),Option.bind_some]
 have e1:(if decide (oI (nmI (dirP t.Nodes to).1.Ents asn)≥0)=true then (idx (dirP t.Nodes to).1.Ents (oI (nmI (dirP t.Nodes to).1.Ents asn))).bind fun x5=>some x5.Ino else some 0)=some (mvY t to asn):=by
  rw [oI_pos]
  unfold nmI mvY
  cases hk:(dirP t.Nodes to).1.Ents.findIdx? (fun e=>e.Name == asn) with
  | none=>rw [find_no hk]; rfl
  | some k =>
   obtain ⟨x,hx,hf,-⟩:=find_at hk
   rw [hf,if_pos (show (some k).isSome=true from rfl)]
   show (idx _ (k:Int)).bind _=_
   rw [idx_some hx]; rfl
 rw [e1,Option.bind_some]
 split
 ·rfl
 rw [r_Get t _ (by omega),Option.bind_some]
 dsimp only
 rw [ba (b:=belP t.Nodes to (lookP t from_ s).1) (fun _=>by rw [r_Below t _ _ (by omega)]; rfl),Option.bind_some,Option.bind_some]
 split
 ·rfl
 rw [r_clash h (by omega),Option.bind_some]
 split
 ·rfl
 rw [r_depth t to (by omega),Option.bind_some,r_mvFull h hB,Option.bind_some]
 split
 ·rfl
 have hL:=h.lef from_ s
 have hT:=h.mvT (lookP t from_ s).1 from_ s to asn (mvY t to asn)
 have hU:=TF.mvU h hT (by omega) (lookP t from_ s).1 to
 rw [r_left t from_ s (by omega) (by have:=h.gE from_; omega),Option.bind_some]
 have e2:(if (mvY t to asn != 0)=true then (ref07_left (lefT t from_ s) to asn).bind fun x12=>(ref07N41 x12 (mvY t to asn)).bind fun x13=>some (x13.Nodes,x13.Next,x13.Cookie) else some ((lefT t from_ s).Nodes,(lefT t from_ s).Next,(lefT t from_ s).Cookie))=some ((mvT t (lookP t from_ s).1 from_ s to asn (mvY t to asn)).Nodes,(mvT t (lookP t from_ s).1 from_ s to asn (mvY t to asn)).Next,(mvT t (lookP t from_ s).1 from_ s to asn (mvY t to asn)).Cookie):=by
  unfold mvT
  by_cases hc:(mvY t to asn != 0)=true
  ·rw [if_pos hc,if_pos hc,r_left _ to asn (Nat.le_trans hL.n (by omega)) (Nat.le_trans (hL.gE to) (by omega)),Option.bind_some,r_unnamed (hL.lef to asn) (by omega),Option.bind_some]
  ·rw [if_neg hc,if_neg hc]
 rw [e2,Option.bind_some]
 generalize mvT t (lookP t from_ s).1 from_ s to asn (mvY t to asn)=u at *
 have e3:(if ((gD t.Nodes (lookP t from_ s).1).Kind == 2)=true then (ref07_with (⟨u.Nodes,u.Next,u.Cookie⟩:api_Tree) ⟨(gD t.Nodes (lookP t from_ s).1).Ino,(gD t.Nodes (lookP t from_ s).1).Kind,(gD t.Nodes (lookP t from_ s).1).Links,(gD t.Nodes (lookP t from_ s).1).Data,(gD t.Nodes (lookP t from_ s).1).Ents,to⟩).bind fun x14=>some (x14.Nodes,x14.Next,x14.Cookie) else some (u.Nodes,u.Next,u.Cookie))=some ((mvU t u (lookP t from_ s).1 to).Nodes,(mvU t u (lookP t from_ s).1 to).Next,(mvU t u (lookP t from_ s).1 to).Cookie):=by
  unfold mvU
  by_cases hc:((gD t.Nodes (lookP t from_ s).1).Kind == 2)=true
  ·rw [if_pos hc,if_pos hc,r_with _ _ (Nat.le_trans hT.n (by omega)),Option.bind_some]
  ·rw [if_neg hc,if_neg hc]
 rw [e3,Option.bind_some]
 generalize mvU t u (lookP t from_ s).1 to=w at *
 show (ref07N19 w to asn _).bind _=_
 rw [r_entered _ _ _ _ (Nat.le_trans hU.n (by omega)) (Nat.le_trans (hU.gE to) (by omega)) (by have:=hU.c; omega)]; rfl
def putP (t:api_Tree) (i:Int) (x:List UInt8):api_Tree×Int:=if (!(gN t.Nodes i).isSome)=true then (t,70) else if ((gD t.Nodes i).Kind == 2)=true then (t,72) else if decide ((x.length:Int) > 4096)=true then (t,2) else (⟨putL ⟨(gD t.Nodes i).Ino,(gD t.Nodes i).Kind,(gD t.Nodes i).Links,x,(gD t.Nodes i).Ents,(gD t.Nodes i).Up⟩ t.Nodes,t.Next,t.Cookie⟩,0)
theorem r_PutT (h:TF B t) (hB:B≤90000) (i:Int) (x:List UInt8) (hx:x.length≤10000):ref07_Put t i x=some (putP t i x):=by
 have h1:=h.n
 unfold ref07_Put putP
 rw [r_Get t i (by omega),Option.bind_some]
 dsimp only
 split
 ·rfl
 split
 ·rfl
 split
 ·rfl
 rw [chk_pos (by simp; omega),r_with _ _ (by omega)]; rfl
def freeP (t:api_Tree) (i:Int):api_Tree×Int:=if (!(gN t.Nodes i).isSome)=true then (t,70) else if ((gD t.Nodes i).Kind == 2)=true then (t,72) else if decide ((gD t.Nodes i).Links > 0)=true then (t,71) else (⟨t.Nodes.filter (fun x=>x.Ino != i),t.Next,t.Cookie⟩,0)
theorem r_FreeT (h:TF B t) (hB:B≤90000) (i:Int):ref07_Free t i=some (freeP t i):=by
 have h1:=h.n
 unfold ref07_Free freeP
 rw [r_Get t i (by omega),Option.bind_some]
 dsimp only
 split
 ·rfl
 split
 ·rfl
 split
 ·rfl
 rw [r_without _ _ (by omega)]; rfl
def nodeP (t:api_Tree) (n:UInt8):Int:=match t.Nodes[n.toNat % (t.Nodes.length+1)]? with | some x=>x.Ino | none=>t.Next
theorem r_Node (h:TF B t) (hB:B≤90000) (n:UInt8):law07_Node t n=some (nodeP t n):=by
 have h1:=h.n
 unfold law07_Node nodeP
 have e:Int.tmod (n.toNat:Int) ((t.Nodes.length:Int)+1)=((n.toNat % (t.Nodes.length+1):Nat):Int):=by
  rw [Int.tmod_eq_emod_of_nonneg (by omega)]; rfl
 rw [chk_pos (by unfold InI64; omega),chk_pos (by omega),e]
 generalize n.toNat % (t.Nodes.length+1)=k
 by_cases hk:k < t.Nodes.length
 ·rw [if_pos (by simpa using hk),idx_of_nat,List.getElem?_eq_getElem hk]; rfl
 ·rw [if_neg (by simpa using hk),List.getElem?_eq_none (by omega)]
def names6:List (List UInt8):=[[97],[98],[99],[100],[101],[46,46]]
def nmP (n:UInt8):List UInt8:=(names6[n.toNat % 6]?).getD []
theorem r_Name (n:UInt8):law07_Name n=some (nmP n):=by
 unfold law07_Name nmP
 have e:Int.tmod (n.toNat:Int) 6=((n.toNat % 6:Nat):Int):=by
  rw [Int.tmod_eq_emod_of_nonneg (by omega)]; omega
 have hk:n.toNat % 6 < 6:=Nat.mod_lt _ (by omega)
 rw [e,idx_of_nat]
 show (names6[_]?).bind _=_
 rw [List.getElem?_eq_getElem hk]; rfl
def doneT (t:api_Tree) (s:law07_Step):api_Tree :=
 if s.Kind.toNat % 8=0∨s.Kind.toNat % 8=1 then (addP t (nodeP t s.A) (nmP s.N) ((s.M.toNat % 2:Nat)+1)).1
 else if s.Kind.toNat % 8=2 then (lnP t (nodeP t s.B) (nodeP t s.A) (nmP s.N)).1
 else if s.Kind.toNat % 8=3 then (unP t (nodeP t s.A) (nmP s.N)).1
 else if s.Kind.toNat % 8=4∨s.Kind.toNat % 8=5 then (mvP t (nodeP t s.A) (nmP s.N) (nodeP t s.B) (nmP s.M)).1
 else if s.Kind.toNat % 8=6 then (putP t (nodeP t s.A) s.Data).1
 else (freeP t (nodeP t s.A)).1
theorem kind8 (k:UInt8):((toU8 (Int.tmod (k.toNat:Int) 8)).toNat:Int)=((k.toNat % 8:Nat):Int):=by
 have e:Int.tmod (k.toNat:Int) 8=((k.toNat % 8:Nat):Int):=by
  rw [Int.tmod_eq_emod_of_nonneg (by omega)]; omega
 rw [e,toU8_toNat]; omega
theorem r_DoneT (h:TF B t) (hB:B≤80000) (s:law07_Step) (hs:s.Data.length≤10000):Tot (law07_Done t s) (fun r=>r.1=doneT t s):=by
 unfold law07_Done
 refine Tot.bindeq (r_Node h (by omega) _) (Tot.bindeq (r_Node h (by omega) _) (Tot.bindeq (r_Name _) (Tot.bindeq (r_Name _) ?_)))
 have em:Int.tmod (s.M.toNat:Int) 2=((s.M.toNat % 2:Nat):Int):=by
  rw [Int.tmod_eq_emod_of_nonneg (by omega)]; omega
 rw [em]
 simp only [kind8]
 unfold doneT
 generalize hk:s.Kind.toNat % 8=k
 have hk8:k < 8:=by omega
 have hm2:s.M.toNat % 2 < 2:=Nat.mod_lt _ (by omega)
 generalize s.M.toNat % 2=m at *
 match k,hk8 with
 | 0,_=>exact Tot.bindeq (a:=true) rfl (Tot.cond rfl (Tot.chk (by unfold InI64; omega) (Tot.bindeq (r_Add h (by omega) _ _ _) (Tot.ret rfl))))
 | 1,_=>exact Tot.bindeq (a:=true) rfl (Tot.cond rfl (Tot.chk (by unfold InI64; omega) (Tot.bindeq (r_Add h (by omega) _ _ _) (Tot.ret rfl))))
 | 2,_=>exact Tot.bindeq (a:=false) rfl (Tot.ncond (by decide) (Tot.cond rfl (Tot.bindeq (r_Ln h (by omega) _ _ _) (Tot.ret rfl))))
 | 3,_=>exact Tot.bindeq (a:=false) rfl (Tot.ncond (by decide) (Tot.ncond (by decide) (Tot.cond rfl (Tot.bindeq (r_Un h (by omega) _ _) (Tot.ret rfl)))))
 | 4,_=>exact Tot.bindeq (a:=false) rfl (Tot.ncond (by decide) (Tot.ncond (by decide) (Tot.ncond (by decide) (Tot.bindeq (a:=true) rfl (Tot.cond rfl (Tot.bindeq (r_Mv h (by omega) _ _ _ _) (Tot.ret rfl)))))))
 | 5,_=>exact Tot.bindeq (a:=false) rfl (Tot.ncond (by decide) (Tot.ncond (by decide) (Tot.ncond (by decide) (Tot.bindeq (a:=true) rfl (Tot.cond rfl (Tot.bindeq (r_Mv h (by omega) _ _ _ _) (Tot.ret rfl)))))))
 | 6,_=>exact Tot.bindeq (a:=false) rfl (Tot.ncond (by decide) (Tot.ncond (by decide) (Tot.ncond (by decide) (Tot.bindeq (a:=false) rfl (Tot.ncond (by decide) (Tot.cond rfl (Tot.bindeq (r_PutT h (by omega) _ _ hs) (Tot.ret rfl))))))))
 | 7,_=>exact Tot.bindeq (a:=false) rfl (Tot.ncond (by decide) (Tot.ncond (by decide) (Tot.ncond (by decide) (Tot.bindeq (a:=false) rfl (Tot.ncond (by decide) (Tot.ncond (by decide) (Tot.bindeq (r_FreeT h (by omega) _) (Tot.ret rfl))))))))
 | n+8,h=>exact absurd h (by omega)
theorem TF.done (h:TF B t) (s:law07_Step):TF (B+5) (doneT t s):=by
 have h0:=h.up (C:=B+5) (by omega)
 unfold doneT
 split
 ·unfold addP; split
  ·exact h0
  ·split
   ·exact h0
   ·split
    ·exact h0
    ·exact ((h.add1 _ _).ent _ _ _).up (by omega)
 split
 ·unfold lnP; split
  ·exact h0
  ·split
   ·exact h0
   ·split
    ·exact h0
    ·exact ((h.ln1 _).ent _ _ _).up (by omega)
 split
 ·unfold unP; split
  ·exact h0
  ·split
   ·exact h0
   ·exact ((h.lef _ _).un _).up (by omega)
 split
 ·unfold mvP; split
  ·exact h0
  ·split
   ·exact h0
   ·split
    ·exact h0
    ·split
     ·exact h0
     ·split
      ·exact h0
      ·split
       ·exact h0
       ·split
        ·exact h0
        ·exact (TF.mvU h (h.mvT _ _ _ _ _ _) (by omega) _ _).ent _ _ _
 split
 ·unfold putP; split
  ·exact h0
  ·split
   ·exact h0
   ·split
    ·exact h0
    ·have h1:=h.gE (nodeP t s.A); have h2:=h.gL (nodeP t s.A); have h3:=h.c; have h4:=h.x
     exact (h.put (by dsimp only; omega) (by dsimp only; omega) (by omega) (by omega)).up (by omega)
 ·unfold freeP; split
  ·exact h0
  ·split
   ·exact h0
   ·split
    ·exact h0
    ·exact (h.drop _).up (by omega)
end
end Go.Proofs
