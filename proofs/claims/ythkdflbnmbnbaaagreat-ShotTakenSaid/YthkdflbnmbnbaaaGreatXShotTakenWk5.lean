/- The walks of this seat beside the plain programs, part 5. No condition. -/
import Derived.Test.YthkdflbnmbnbaaaGreatXShotTakenEn
import Derived.Test.YthkdflbnmbnbaaaGreatXShotTakenWk0
import Derived.Test.YthkdflbnmbnbaaaGreatXShotTakenWk1
import Derived.Test.YthkdflbnmbnbaaaGreatXShotTakenWk2
import Derived.Test.YthkdflbnmbnbaaaGreatXShotTakenWk3
import Derived.Test.YthkdflbnmbnbaaaGreatXShotTakenWk4
namespace Go.Proofs
set_option linter.all false
open Go Go.Cat
variable [M:Mono]
set_option maxRecDepth 100000
theorem w_law10_Done {p_s} {p_a} {r} (h:law10_Done p_s p_a=some r):Pure Tryz.prog 31 [(.a [(.s (mI p_s.Now.Nodes)),(vi p_s.Now.Next),(vi p_s.Now.Cookie),(vi p_s.Tick),(.s (mB p_s.Since)),(.s (mA p_s.Pasts)),(.s (mU p_s.Taken)),(vi p_s.Next)]),(.a [(vu p_a.Do),(vu p_a.S.Kind),(vu p_a.S.A),(vu p_a.S.B),(vu p_a.S.N),(vu p_a.S.M),(.s (mD p_a.S.Data)),(vu p_a.N)])] (.t [(.a [(.s (mI r.1.Now.Nodes)),(vi r.1.Now.Next),(vi r.1.Now.Cookie),(vi r.1.Tick),(.s (mB r.1.Since)),(.s (mA r.1.Pasts)),(.s (mU r.1.Taken)),(vi r.1.Next)]),(vi r.2.1),(vi r.2.2)]):=by
 refine po Tryz.tok 60 Tryz.func31 (by kernel_rfl) rfl rfl rfl ?_
 unfold law10_Done at h
 refine wE [(0,.a [.s (mI p_s.Now.Nodes),vi p_s.Now.Next,vi p_s.Now.Cookie,vi p_s.Tick,.s (mB p_s.Since),.s (mA p_s.Pasts),.s (mU p_s.Taken),vi p_s.Next]),(1,.a [vu p_a.Do,vu p_a.S.Kind,vu p_a.S.A,vu p_a.S.B,vu p_a.S.N,vu p_a.S.M,.s (mD p_a.S.Data),vu p_a.N])] Q2 ?_
 refine sg ?_
 refine wT [(2,.b 2 0),(3,.b 3 0),(4,.b 4 0)] [(2,.box [.s (mI p_s.Now.Nodes),vi p_s.Now.Next,vi p_s.Now.Cookie,vi p_s.Tick,.s (mB p_s.Since),.s (mA p_s.Pasts),.s (mU p_s.Taken),vi p_s.Next]),(3,.box [vu p_a.Do,vu p_a.S.Kind,vu p_a.S.A,vu p_a.S.B,vu p_a.S.N,vu p_a.S.M,.s (mD p_a.S.Data),vu p_a.N]),(4,.box [.v (.slice none 0 0),vi (0),vi (0),vi (0),.v (.slice none 0 0),.v (.slice none 0 0),.v (.slice none 0 0),vi (0)])] Q3 J3 rfl ?_
 refine sq ?_
 refine sg ?_
 refine ⟨_,rfl,(by decide),_,b8_rem _ _,?_⟩
 refine wT [(2,.b 2 0),(3,.b 3 0),(4,.b 4 0),(17,vu (toU8 (Int.tmod (p_a.Do.toNat:Int) (8))))] [(2,.box [.s (mI p_s.Now.Nodes),vi p_s.Now.Next,vi p_s.Now.Cookie,vi p_s.Tick,.s (mB p_s.Since),.s (mA p_s.Pasts),.s (mU p_s.Taken),vi p_s.Next]),(3,.box [vu p_a.Do,vu p_a.S.Kind,vu p_a.S.A,vu p_a.S.B,vu p_a.S.N,vu p_a.S.M,.s (mD p_a.S.Data),vu p_a.N]),(4,.box [.v (.slice none 0 0),vi (0),vi (0),vi (0),.v (.slice none 0 0),.v (.slice none 0 0),.v (.slice none 0 0),vi (0)])] Q4 J3 rfl ?_
 refine bl ?_
 obtain ⟨v1,hv1,h⟩:=bindS h
 refine Ok.seqw ⟨Cat.tab [(2,.b 2 0),(3,.b 3 0),(4,.b 4 0),(17,vu (toU8 (Int.tmod (p_a.Do.toNat:Int) (8)))),(18,vb v1)],[(2,.box [.s (mI p_s.Now.Nodes),vi p_s.Now.Next,vi p_s.Now.Cookie,vi p_s.Tick,.s (mB p_s.Since),.s (mA p_s.Pasts),.s (mU p_s.Taken),vi p_s.Next]),(3,.box [vu p_a.Do,vu p_a.S.Kind,vu p_a.S.A,vu p_a.S.B,vu p_a.S.N,vu p_a.S.M,.s (mD p_a.S.Data),vu p_a.N]),(4,.box [.v (.slice none 0 0),vi (0),vi (0),vi (0),.v (.slice none 0 0),.v (.slice none 0 0),.v (.slice none 0 0),vi (0)])]⟩ ?_ ?_
 ·refine sg ?_
  refine wT [(2,.b 2 0),(3,.b 3 0),(4,.b 4 0),(17,vu (toU8 (Int.tmod (p_a.Do.toNat:Int) (8)))),(18,vb (((toU8 (Int.tmod (p_a.Do.toNat:Int) (8))).toNat:Int) == 5))] [(2,.box [.s (mI p_s.Now.Nodes),vi p_s.Now.Next,vi p_s.Now.Cookie,vi p_s.Tick,.s (mB p_s.Since),.s (mA p_s.Pasts),.s (mU p_s.Taken),vi p_s.Next]),(3,.box [vu p_a.Do,vu p_a.S.Kind,vu p_a.S.A,vu p_a.S.B,vu p_a.S.N,vu p_a.S.M,.s (mD p_a.S.Data),vu p_a.N]),(4,.box [.v (.slice none 0 0),vi (0),vi (0),vi (0),.v (.slice none 0 0),.v (.slice none 0 0),.v (.slice none 0 0),vi (0)])] Q5 J3 rfl ?_
  refine cn 18 (((toU8 (Int.tmod (p_a.Do.toNat:Int) (8))).toNat:Int) == 5) rfl hv1 (fun hb hv1=>?_) fun hb hv1=>?_
  ·refine sk ?_
   cases hv1
   exact wt Q5 J3 rfl
  refine rg ?_
  cases hv1
  exact wt Q5 J3 rfl
 refine cn 18 (v1) rfl h (fun hb h=>?_) fun hb h=>?_
 ·refine sq ?_
  refine Ok.chain (chain:=[(11,[0,1,2,3,4,5,6,7,8,9,10,13,14]),(12,[9,10,13,14])]) Tryz.tok Tryz.mixed (by kernel_rfl) ?_
  obtain ⟨x1,hx1,h⟩:=bindS h
  obtain ⟨x2,hx2,h⟩:=bindS h
  refine ⟨_,⟨_,rfl,rfl⟩,_,rfl,_,⟨_,rfl,rfl⟩,_,rfl,_,⟨_,rfl,rfl⟩,_,⟨_,.of_pure (w_law07_Node hx1) (LeL.refl _),rfl⟩,_,⟨_,.of_pure (w_ref10_Take hx2) (LeL.refl _),rfl⟩,_,rfl,_,rfl,_,rfl,_,rfl,_,rfl,_,rfl,⟨⟨_,rfl,_,rfl,rfl⟩,⟨_,rfl,rfl⟩,⟨_,rfl,_,rfl,rfl⟩,⟨_,rfl,rfl⟩,⟨_,rfl,_,rfl,rfl⟩,⟨_,rfl,_,.of_pure (w_law07_Node hx1) (LeL.refl _),rfl⟩,⟨_,rfl,_,.of_pure (w_ref10_Take hx2) (LeL.refl _),rfl⟩,⟨_,rfl,rfl⟩,⟨_,rfl,rfl⟩,⟨_,rfl,rfl⟩,⟨_,rfl,rfl⟩,⟨_,rfl,rfl⟩,⟨_,rfl,rfl⟩,Q0⟩,_,rfl,⟨⟨_,rfl,rfl⟩,⟨_,rfl,rfl⟩,⟨_,rfl,rfl⟩,⟨_,rfl,rfl⟩,Q0⟩,?_⟩
  refine wT [(4,.b 4 0),(7,.b 7 0),(8,vi x2.2.1),(9,vi x2.2.2)] [(4,.box [.v (.slice none 0 0),vi (0),vi (0),vi (0),.v (.slice none 0 0),.v (.slice none 0 0),.v (.slice none 0 0),vi (0)]),(7,.box [.s (mI x2.1.Now.Nodes),vi x2.1.Now.Next,vi x2.1.Now.Cookie,vi x2.1.Tick,.s (mB x2.1.Since),.s (mA x2.1.Pasts),.s (mU x2.1.Taken),vi x2.1.Next])] Q4 J2 rfl ?_
  refine sg ?_
  refine ⟨_,rfl,_,rfl,?_⟩
  refine wT [(4,.b 4 0),(5,vi x2.2.1),(6,vi x2.2.2)] [(4,.box [.s (mI x2.1.Now.Nodes),vi x2.1.Now.Next,vi x2.1.Now.Cookie,vi x2.1.Tick,.s (mB x2.1.Since),.s (mA x2.1.Pasts),.s (mU x2.1.Taken),vi x2.1.Next])] Q3 J1 rfl ?_
  refine rt ?_
  cases h
  exact ⟨_,rfl,(Fz.t (.cons (Fz.imm rfl) (.cons Fz.v (.cons Fz.v .nil))))⟩
 refine sg ?_
 refine wT [(2,.b 2 0),(3,.b 3 0),(4,.b 4 0),(35,vb (((toU8 (Int.tmod (p_a.Do.toNat:Int) (8))).toNat:Int) == 7))] [(2,.box [.s (mI p_s.Now.Nodes),vi p_s.Now.Next,vi p_s.Now.Cookie,vi p_s.Tick,.s (mB p_s.Since),.s (mA p_s.Pasts),.s (mU p_s.Taken),vi p_s.Next]),(3,.box [vu p_a.Do,vu p_a.S.Kind,vu p_a.S.A,vu p_a.S.B,vu p_a.S.N,vu p_a.S.M,.s (mD p_a.S.Data),vu p_a.N]),(4,.box [.v (.slice none 0 0),vi (0),vi (0),vi (0),.v (.slice none 0 0),.v (.slice none 0 0),.v (.slice none 0 0),vi (0)])] Q4 J3 rfl ?_
 refine cn 35 (((toU8 (Int.tmod (p_a.Do.toNat:Int) (8))).toNat:Int) == 7) rfl h (fun hb h=>?_) fun hb h=>?_
 ·refine sq ?_
  refine Ok.draw2 (m:=10) (late:=[8]) (MD:=⟨[]⟩) (CH:=⟨[]⟩) Tryz.tok Tryz.mixed (by kernel_rfl) ?_
  obtain ⟨x3,hx3,h⟩:=bindS h
  obtain ⟨x4,hx4,h⟩:=bindS h
  refine ⟨_,⟨_,rfl,rfl⟩,_,⟨_,rfl,rfl⟩,_,rfl,_,⟨_,rfl,rfl⟩,_,⟨_,.of_pure (w_law10_number hx3) (LeL.refl _),rfl⟩,_,⟨_,.of_pure (w_ref10_Drop hx4) (LeL.refl _),rfl⟩,_,rfl,_,rfl,_,rfl,Q0,?_⟩
  refine ⟨_,rfl,⟨⟨_,rfl,rfl⟩,Q0⟩,?_⟩
  refine wT [(4,.b 4 0),(10,.b 10 0),(11,vi x4.2)] [(4,.box [.v (.slice none 0 0),vi (0),vi (0),vi (0),.v (.slice none 0 0),.v (.slice none 0 0),.v (.slice none 0 0),vi (0)]),(10,.box [.s (mI x4.1.Now.Nodes),vi x4.1.Now.Next,vi x4.1.Now.Cookie,vi x4.1.Tick,.s (mB x4.1.Since),.s (mA x4.1.Pasts),.s (mU x4.1.Taken),vi x4.1.Next])] Q3 J2 rfl ?_
  refine sg ?_
  refine ⟨_,rfl,_,rfl,?_⟩
  refine wT [(4,.b 4 0),(5,vi (0)),(6,vi x4.2)] [(4,.box [.s (mI x4.1.Now.Nodes),vi x4.1.Now.Next,vi x4.1.Now.Cookie,vi x4.1.Tick,.s (mB x4.1.Since),.s (mA x4.1.Pasts),.s (mU x4.1.Taken),vi x4.1.Next])] Q3 J1 rfl ?_
  refine rt ?_
  cases h
  exact ⟨_,rfl,(Fz.t (.cons (Fz.imm rfl) (.cons Fz.v (.cons Fz.v .nil))))⟩
 refine sk ?_
 refine sg ?_
 obtain ⟨x5,hx5,h⟩:=bindS h
 refine ⟨_,rfl,_,rfl,?_⟩
 refine CallOk.call (w_law07_Done hx5) (LeL.refl _) ?_
 refine ⟨_,rfl,?_⟩
 refine wT [(2,.b 2 0),(4,.b 4 0),(12,.b 12 0)] [(2,.box [.s (mI p_s.Now.Nodes),vi p_s.Now.Next,vi p_s.Now.Cookie,vi p_s.Tick,.s (mB p_s.Since),.s (mA p_s.Pasts),.s (mU p_s.Taken),vi p_s.Next]),(4,.box [.v (.slice none 0 0),vi (0),vi (0),vi (0),.v (.slice none 0 0),.v (.slice none 0 0),.v (.slice none 0 0),vi (0)]),(12,.box [.s (mI x5.1.Nodes),vi x5.1.Next,vi x5.1.Cookie])] Q3 J3 rfl ?_
 refine sg ?_
 obtain ⟨x6,hx6,h⟩:=bindS h
 refine ⟨_,rfl,_,rfl,?_⟩
 refine CallOk.call (w_ref10_Put hx6) (LeL.refl _) ?_
 refine ⟨_,rfl,?_⟩
 refine wT [(4,.b 4 0),(5,vi (0)),(6,vi (0))] [(4,.box [.s (mI x6.Now.Nodes),vi x6.Now.Next,vi x6.Now.Cookie,vi x6.Tick,.s (mB x6.Since),.s (mA x6.Pasts),.s (mU x6.Taken),vi x6.Next])] Q3 J1 rfl ?_
 refine rt ?_
 cases h
 exact ⟨_,rfl,(Fz.t (.cons (Fz.imm rfl) (.cons Fz.v (.cons Fz.v .nil))))⟩
theorem w_law10_Made {p_l} {r} (h:law10_Made p_l=some r):Pure Tryz.prog 11 [(.s (mF p_l))] (.a [(.s (mI r.Now.Nodes)),(vi r.Now.Next),(vi r.Now.Cookie),(vi r.Tick),(.s (mB r.Since)),(.s (mA r.Pasts)),(.s (mU r.Taken)),(vi r.Next)]):=by
 refine po Tryz.tok 28 Tryz.func11 (by kernel_rfl) rfl rfl rfl ?_
 unfold law10_Made at h
 refine wE [(0,.s (mF p_l))] Q1 ?_
 refine sg ?_
 refine wT [(0,.s (mF p_l)),(2,.b 2 0)] [(2,.box [.v (.slice none 0 0),vi (0),vi (0),vi (0),.v (.slice none 0 0),.v (.slice none 0 0),.v (.slice none 0 0),vi (0)])] Q2 J1 rfl ?_
 refine sg ?_
 obtain ⟨x1,hx1,h⟩:=bindS h
 refine CallOk.call (w_ref07_New hx1) (LeL.refl _) ?_
 obtain ⟨x2,hx2,h⟩:=bindS h
 refine CallOk.call (w_ref10_New hx2) (LeL.refl _) ?_
 refine ⟨_,rfl,?_⟩
 refine wT [(0,.s (mF p_l)),(2,.b 2 0),(3,.b 3 0)] [(2,.box [.v (.slice none 0 0),vi (0),vi (0),vi (0),.v (.slice none 0 0),.v (.slice none 0 0),.v (.slice none 0 0),vi (0)]),(3,.box [.s (mI x2.Now.Nodes),vi x2.Now.Next,vi x2.Now.Cookie,vi x2.Tick,.s (mB x2.Since),.s (mA x2.Pasts),.s (mU x2.Taken),vi x2.Next])] Q3 J2 rfl ?_
 obtain ⟨v1,hv1,h⟩:=bindS h
 refine Ok.seqw ⟨Cat.tab [(2,.b 2 0),(3,.b 3 0)],[(2,.box [.v (.slice none 0 0),vi (0),vi (0),vi (0),.v (.slice none 0 0),.v (.slice none 0 0),.v (.slice none 0 0),vi (0)]),(3,.box [.s (mI v1.1),vi v1.2.1,vi v1.2.2.1,vi v1.2.2.2.1,.s (mB v1.2.2.2.2.1),.s (mA v1.2.2.2.2.2.1),.s (mU v1.2.2.2.2.2.2.1),vi v1.2.2.2.2.2.2.2])]⟩ ?_ ?_
 ·refine sg ?_
  refine wT [(0,.s (mF p_l)),(2,.b 2 0),(3,.b 3 0),(4,vi (0))] [(2,.box [.v (.slice none 0 0),vi (0),vi (0),vi (0),.v (.slice none 0 0),.v (.slice none 0 0),.v (.slice none 0 0),vi (0)]),(3,.box [.s (mI x2.Now.Nodes),vi x2.Now.Next,vi x2.Now.Cookie,vi x2.Tick,.s (mB x2.Since),.s (mA x2.Pasts),.s (mU x2.Taken),vi x2.Next])] Q4 J2 rfl ?_
  refine bl ?_
  refine Ok.loop (fun (s1:Int×(List api_Node)×Int×Int×Int×(List Int)×(List api_Past)×(List api_Shot)×Int)=>⟨Cat.tab [(0,.s (mF p_l)),(2,.b 2 0),(3,.b 3 0),(4,vi s1.1)],[(2,.box [.v (.slice none 0 0),vi (0),vi (0),vi (0),.v (.slice none 0 0),.v (.slice none 0 0),.v (.slice none 0 0),vi (0)]),(3,.box [.s (mI s1.2.1),vi s1.2.2.1,vi s1.2.2.2.1,vi s1.2.2.2.2.1,.s (mB s1.2.2.2.2.2.1),.s (mA s1.2.2.2.2.2.2.1),.s (mU s1.2.2.2.2.2.2.2.1),vi s1.2.2.2.2.2.2.2.2])]⟩) (law10_Made_B1 p_l) (s0:=(0,x2.Now.Nodes,x2.Now.Next,x2.Now.Cookie,x2.Tick,x2.Since,x2.Pasts,x2.Taken,x2.Next)) hv1 (wt Q4 ⟨⟨_,rfl,.refl _⟩,⟨_,rfl,.refl _⟩,Q0⟩ rfl) ?_
  intro s1 y1 hB1 hy1
  unfold law10_Made_B1 at hB1
  refine sq ?_
  refine sg ?_
  refine ⟨_,List.length_map _,fun _=>?_⟩
  refine wT [(0,.s (mF p_l)),(2,.b 2 0),(3,.b 3 0),(4,vi s1.1),(13,vb (decide (s1.1 < (p_l.length:Int))))] [(2,.box [.v (.slice none 0 0),vi (0),vi (0),vi (0),.v (.slice none 0 0),.v (.slice none 0 0),.v (.slice none 0 0),vi (0)]),(3,.box [.s (mI s1.2.1),vi s1.2.2.1,vi s1.2.2.2.1,vi s1.2.2.2.2.1,.s (mB s1.2.2.2.2.2.1),.s (mA s1.2.2.2.2.2.2.1),.s (mU s1.2.2.2.2.2.2.2.1),vi s1.2.2.2.2.2.2.2.2])] Q5 J2 rfl ?_
  refine cn 13 (decide (s1.1 < (p_l.length:Int))) rfl hB1 (fun hb hB1=>?_) fun hb hB1=>?_
  ·refine sk ?_
   refine sq ?_
   refine bl ?_
   refine sq ?_
   refine Ok.chain (chain:=[(10,[0,1,2,3,4,5,6,7,8,9,12,13]),(11,[8,9,12,13])]) Tryz.tok Tryz.mixed (by kernel_rfl) ?_
   obtain ⟨x3,hx3,hB1⟩:=bindS hB1
   obtain ⟨x4,hx4,hB1⟩:=bindS hB1
   refine ⟨_,⟨_,rfl,rfl⟩,_,rfl,_,rfl,_,⟨_,idx_nat hx3,_,idx_row hx3,rfl⟩,_,⟨_,rfl,rfl⟩,_,⟨_,.of_pure (w_law10_Done hx4) (LeL.refl _),rfl⟩,_,rfl,_,rfl,_,rfl,_,rfl,_,rfl,_,rfl,⟨⟨_,rfl,_,rfl,rfl⟩,⟨_,rfl,rfl⟩,⟨_,rfl,rfl⟩,⟨_,rfl,_,idx_nat hx3,_,idx_row hx3,rfl⟩,⟨_,rfl,_,rfl,rfl⟩,⟨_,rfl,_,.of_pure (w_law10_Done hx4) (LeL.refl _),rfl⟩,⟨_,rfl,rfl⟩,⟨_,rfl,rfl⟩,⟨_,rfl,rfl⟩,⟨_,rfl,rfl⟩,⟨_,rfl,rfl⟩,⟨_,rfl,rfl⟩,Q0⟩,_,rfl,⟨⟨_,rfl,rfl⟩,⟨_,rfl,rfl⟩,⟨_,rfl,rfl⟩,⟨_,rfl,rfl⟩,Q0⟩,?_⟩
   refine wT [(0,.s (mF p_l)),(2,.b 2 0),(3,.b 3 0),(4,vi s1.1),(5,.b 5 0)] [(2,.box [.v (.slice none 0 0),vi (0),vi (0),vi (0),.v (.slice none 0 0),.v (.slice none 0 0),.v (.slice none 0 0),vi (0)]),(3,.box [.s (mI s1.2.1),vi s1.2.2.1,vi s1.2.2.2.1,vi s1.2.2.2.2.1,.s (mB s1.2.2.2.2.2.1),.s (mA s1.2.2.2.2.2.2.1),.s (mU s1.2.2.2.2.2.2.2.1),vi s1.2.2.2.2.2.2.2.2]),(5,.box [.s (mI x4.1.Now.Nodes),vi x4.1.Now.Next,vi x4.1.Now.Cookie,vi x4.1.Tick,.s (mB x4.1.Since),.s (mA x4.1.Pasts),.s (mU x4.1.Taken),vi x4.1.Next])] Q5 J3 rfl ?_
   refine rg ?_
   refine ⟨_,rfl,_,rfl,?_⟩
   refine wT [(0,.s (mF p_l)),(2,.b 2 0),(3,.b 3 0),(4,vi s1.1)] [(2,.box [.v (.slice none 0 0),vi (0),vi (0),vi (0),.v (.slice none 0 0),.v (.slice none 0 0),.v (.slice none 0 0),vi (0)]),(3,.box [.s (mI x4.1.Now.Nodes),vi x4.1.Now.Next,vi x4.1.Now.Cookie,vi x4.1.Tick,.s (mB x4.1.Since),.s (mA x4.1.Pasts),.s (mU x4.1.Taken),vi x4.1.Next])] Q4 J2 rfl ?_
   refine rg ?_
   obtain ⟨hc1,hB1⟩:=chk_some hB1
   refine (Or.inl ⟨hc1,?_⟩)
   exact ⟨_,sj hB1,wt Q4 J2 rfl⟩
  refine xt ?_
  have hB1:=out_ret hB1 hy1
  cases hB1
  exact wt Q2 J2 rfl
 refine sg ?_
 refine ⟨_,rfl,_,rfl,?_⟩
 refine wT [(2,.b 2 0)] [(2,.box [.s (mI v1.1),vi v1.2.1,vi v1.2.2.1,vi v1.2.2.2.1,.s (mB v1.2.2.2.2.1),.s (mA v1.2.2.2.2.2.1),.s (mU v1.2.2.2.2.2.2.1),vi v1.2.2.2.2.2.2.2])] Q1 J1 rfl ?_
 refine rt ?_
 cases h
 exact ⟨_,rfl,(Fz.imm rfl)⟩
set_option maxHeartbeats 4000000 in
theorem w_ref10_Same {p_a} {p_b} {r} (h:ref10_Same p_a p_b=some r):Pure Tryz.prog 13 [(.a [(.s (mI p_a.Now.Nodes)),(vi p_a.Now.Next),(vi p_a.Now.Cookie),(vi p_a.Tick),(.s (mB p_a.Since)),(.s (mA p_a.Pasts)),(.s (mU p_a.Taken)),(vi p_a.Next)]),(.a [(.s (mI p_b.Now.Nodes)),(vi p_b.Now.Next),(vi p_b.Now.Cookie),(vi p_b.Tick),(.s (mB p_b.Since)),(.s (mA p_b.Pasts)),(.s (mU p_b.Taken)),(vi p_b.Next)])] (vb r):=by
 refine po Tryz.tok 130 Tryz.func13 (by kernel_rfl) rfl rfl rfl ?_
 unfold ref10_Same at h
 refine wE [(0,.a [.s (mI p_a.Now.Nodes),vi p_a.Now.Next,vi p_a.Now.Cookie,vi p_a.Tick,.s (mB p_a.Since),.s (mA p_a.Pasts),.s (mU p_a.Taken),vi p_a.Next]),(1,.a [.s (mI p_b.Now.Nodes),vi p_b.Now.Next,vi p_b.Now.Cookie,vi p_b.Tick,.s (mB p_b.Since),.s (mA p_b.Pasts),.s (mU p_b.Taken),vi p_b.Next])] Q2 ?_
 refine sg ?_
 refine wT [(2,.b 2 0),(3,.b 3 0)] [(2,.box [.s (mI p_a.Now.Nodes),vi p_a.Now.Next,vi p_a.Now.Cookie,vi p_a.Tick,.s (mB p_a.Since),.s (mA p_a.Pasts),.s (mU p_a.Taken),vi p_a.Next]),(3,.box [.s (mI p_b.Now.Nodes),vi p_b.Now.Next,vi p_b.Now.Cookie,vi p_b.Tick,.s (mB p_b.Since),.s (mA p_b.Pasts),.s (mU p_b.Taken),vi p_b.Next])] Q2 J2 rfl ?_
 refine sq ?_
 obtain ⟨v1,hv1,h⟩:=bindS h
 refine Ok.seqw ⟨Cat.tab [(2,.b 2 0),(3,.b 3 0),(56,vb v1)],[(2,.box [.s (mI p_a.Now.Nodes),vi p_a.Now.Next,vi p_a.Now.Cookie,vi p_a.Tick,.s (mB p_a.Since),.s (mA p_a.Pasts),.s (mU p_a.Taken),vi p_a.Next]),(3,.box [.s (mI p_b.Now.Nodes),vi p_b.Now.Next,vi p_b.Now.Cookie,vi p_b.Tick,.s (mB p_b.Since),.s (mA p_b.Pasts),.s (mU p_b.Taken),vi p_b.Next])]⟩ ?_ ?_
 ·refine rg ?_
  obtain ⟨x1,hx1,hv1⟩:=bindS hv1
  refine ⟨_,rfl,_,rfl,?_⟩
  refine CallOk.call (w_ref07_Same hx1) (LeL.refl _) ?_
  obtain ⟨c1,hg1,hv1⟩:=bindS hv1
  refine Br.itf hg1 (fun hb hg1=>?_) fun hb hg1=>?_
  ·cases hg1
   obtain ⟨c2,hg2,hv1⟩:=bindS hv1
   replace hg2:=iteT hg2
   cases hg2
   obtain ⟨c3,hg3,hv1⟩:=bindS hv1
   replace hg3:=iteT hg3
   cases hg3
   obtain ⟨c4,hg4,hv1⟩:=bindS hv1
   replace hg4:=iteT hg4
   cases hg4
   obtain ⟨c5,hg5,hv1⟩:=bindS hv1
   replace hg5:=iteT hg5
   cases hg5
   cases hv1
   exact wt Q3 J2 rfl
  refine ⟨_,rfl,_,rfl,?_⟩
  cases hg1
  obtain ⟨c2,hg6,hv1⟩:=bindS hv1
  refine Br.itf hg6 (fun hb hg6=>?_) fun hb hg6=>?_
  ·cases hg6
   obtain ⟨c3,hg7,hv1⟩:=bindS hv1
   replace hg7:=iteT hg7
   cases hg7
   obtain ⟨c4,hg8,hv1⟩:=bindS hv1
   replace hg8:=iteT hg8
   cases hg8
   obtain ⟨c5,hg9,hv1⟩:=bindS hv1
   replace hg9:=iteT hg9
   cases hg9
   cases hv1
   exact wt Q3 J2 rfl
  refine ⟨_,rfl,_,rfl,?_⟩
  cases hg6
  obtain ⟨c3,hg10,hv1⟩:=bindS hv1
  refine Br.itf hg10 (fun hb hg10=>?_) fun hb hg10=>?_
  ·cases hg10
   obtain ⟨c4,hg11,hv1⟩:=bindS hv1
   replace hg11:=iteT hg11
   cases hg11
   obtain ⟨c5,hg12,hv1⟩:=bindS hv1
   replace hg12:=iteT hg12
   cases hg12
   cases hv1
   exact wt Q3 J2 rfl
  refine ⟨_,rfl,_,List.length_map _,fun _=>⟨_,rfl,_,List.length_map _,fun _=>?_⟩⟩
  cases hg10
  obtain ⟨c4,hg13,hv1⟩:=bindS hv1
  refine Br.itf hg13 (fun hb hg13=>?_) fun hb hg13=>?_
  ·cases hg13
   obtain ⟨c5,hg14,hv1⟩:=bindS hv1
   replace hg14:=iteT hg14
   cases hg14
   cases hv1
   exact wt Q3 J2 rfl
  refine ⟨_,rfl,_,List.length_map _,fun _=>⟨_,rfl,_,List.length_map _,fun _=>?_⟩⟩
  cases hg13
  obtain ⟨c5,hg15,hv1⟩:=bindS hv1
  refine Br.itf hg15 (fun hb hg15=>?_) fun hb hg15=>?_
  ·cases hg15
   cases hv1
   exact wt Q3 J2 rfl
  refine ⟨_,rfl,_,List.length_map _,fun _=>⟨_,rfl,_,List.length_map _,fun _=>?_⟩⟩
  cases hg15
  cases hv1
  exact wt Q3 J2 rfl
 refine cn 56 (v1) rfl h (fun hb h=>?_) fun hb h=>?_
 ·refine sg ?_
  refine wE [(4,vb false)] Q1 ?_
  refine rt ?_
  cases h
  exact Fz.v
 refine sk ?_
 refine Ok.seqj (fun v2=>⟨Cat.tab [(2,.b 2 0),(3,.b 3 0)],[(2,.box [.s (mI p_a.Now.Nodes),vi p_a.Now.Next,vi p_a.Now.Cookie,vi p_a.Tick,.s (mB p_a.Since),.s (mA p_a.Pasts),.s (mU p_a.Taken),vi p_a.Next]),(3,.box [.s (mI p_b.Now.Nodes),vi p_b.Now.Next,vi p_b.Now.Cookie,vi p_b.Tick,.s (mB p_b.Since),.s (mA p_b.Pasts),.s (mU p_b.Taken),vi p_b.Next])]⟩) (fun v2=>ref10_Same_J1 p_a p_b v2=some r) ?_ ?_
 ·refine sg ?_
  refine wT [(2,.b 2 0),(3,.b 3 0),(5,vi (0))] [(2,.box [.s (mI p_a.Now.Nodes),vi p_a.Now.Next,vi p_a.Now.Cookie,vi p_a.Tick,.s (mB p_a.Since),.s (mA p_a.Pasts),.s (mU p_a.Taken),vi p_a.Next]),(3,.box [.s (mI p_b.Now.Nodes),vi p_b.Now.Next,vi p_b.Now.Cookie,vi p_b.Tick,.s (mB p_b.Since),.s (mA p_b.Pasts),.s (mU p_b.Taken),vi p_b.Next])] Q3 J2 rfl ?_
  refine bl ?_
  refine Ok.loop (fun (s1:Int)=>⟨Cat.tab [(2,.b 2 0),(3,.b 3 0),(5,vi s1)],[(2,.box [.s (mI p_a.Now.Nodes),vi p_a.Now.Next,vi p_a.Now.Cookie,vi p_a.Tick,.s (mB p_a.Since),.s (mA p_a.Pasts),.s (mU p_a.Taken),vi p_a.Next]),(3,.box [.s (mI p_b.Now.Nodes),vi p_b.Now.Next,vi p_b.Now.Cookie,vi p_b.Tick,.s (mB p_b.Since),.s (mA p_b.Pasts),.s (mU p_b.Taken),vi p_b.Next])]⟩) (ref10_Same_B1 p_a p_b) (s0:=0) h (wt Q3 ⟨⟨_,rfl,.refl _⟩,⟨_,rfl,.refl _⟩,Q0⟩ rfl) ?_
  intro s1 y1 hB1 hy1
  unfold ref10_Same_B1 at hB1
  refine sq ?_
  refine sg ?_
  refine ⟨_,rfl,_,List.length_map _,fun _=>?_⟩
  refine wT [(2,.b 2 0),(3,.b 3 0),(5,vi s1),(61,vb (decide (s1 < (p_a.Since.length:Int))))] [(2,.box [.s (mI p_a.Now.Nodes),vi p_a.Now.Next,vi p_a.Now.Cookie,vi p_a.Tick,.s (mB p_a.Since),.s (mA p_a.Pasts),.s (mU p_a.Taken),vi p_a.Next]),(3,.box [.s (mI p_b.Now.Nodes),vi p_b.Now.Next,vi p_b.Now.Cookie,vi p_b.Tick,.s (mB p_b.Since),.s (mA p_b.Pasts),.s (mU p_b.Taken),vi p_b.Next])] Q4 J2 rfl ?_
  refine cn 61 (decide (s1 < (p_a.Since.length:Int))) rfl hB1 (fun hb hB1=>?_) fun hb hB1=>?_
  ·refine sk ?_
   refine sq ?_
   refine bl ?_
   refine sq ?_
   refine Ok.draw (m:=11) (MD:=⟨[]⟩) (CH:=⟨[]⟩) Tryz.tok Tryz.mixed (by kernel_rfl) ?_
   obtain ⟨x2,hx2,hB1⟩:=bindS hB1
   obtain ⟨x3,hx3,hB1⟩:=bindS hB1
   refine ⟨_,rfl,_,⟨_,rfl,rfl⟩,_,rfl,_,⟨_,idx_nat hx2,_,idx_row hx2,rfl⟩,_,⟨_,rfl,rfl⟩,_,rfl,_,⟨_,rfl,rfl⟩,_,rfl,_,⟨_,idx_nat hx3,_,idx_row hx3,rfl⟩,_,⟨_,rfl,rfl⟩,_,rfl,Q0,?_⟩
   refine wT [(2,.b 2 0),(3,.b 3 0),(5,vi s1),(74,vb (x2 != x3))] [(2,.box [.s (mI p_a.Now.Nodes),vi p_a.Now.Next,vi p_a.Now.Cookie,vi p_a.Tick,.s (mB p_a.Since),.s (mA p_a.Pasts),.s (mU p_a.Taken),vi p_a.Next]),(3,.box [.s (mI p_b.Now.Nodes),vi p_b.Now.Next,vi p_b.Now.Cookie,vi p_b.Tick,.s (mB p_b.Since),.s (mA p_b.Pasts),.s (mU p_b.Taken),vi p_b.Next])] Q4 J2 rfl ?_
   refine cn 74 (x2 != x3) rfl hB1 (fun hb hB1=>?_) fun hb hB1=>?_
   ·refine sg ?_
    refine wE [(4,vb false)] Q1 ?_
    refine rt ?_
    have hB1:=out_ret hB1 hy1
    cases hB1
    exact Fz.v
   refine sk ?_
   refine rg ?_
   obtain ⟨hc1,hB1⟩:=chk_some hB1
   refine (Or.inl ⟨hc1,?_⟩)
   exact ⟨_,sj hB1,wt Q3 J2 rfl⟩
  refine xt ?_
  have hB1:=out_ret hB1 hy1
  exact ⟨_,hB1,wt Q2 ⟨⟨_,rfl,.refl _⟩,⟨_,rfl,.refl _⟩,Q0⟩ rfl⟩
 intro v2 h
 unfold ref10_Same_J1 at h
 refine Ok.seqj (fun v3=>⟨Cat.tab [(2,.b 2 0),(3,.b 3 0)],[(2,.box [.s (mI p_a.Now.Nodes),vi p_a.Now.Next,vi p_a.Now.Cookie,vi p_a.Tick,.s (mB p_a.Since),.s (mA p_a.Pasts),.s (mU p_a.Taken),vi p_a.Next]),(3,.box [.s (mI p_b.Now.Nodes),vi p_b.Now.Next,vi p_b.Now.Cookie,vi p_b.Tick,.s (mB p_b.Since),.s (mA p_b.Pasts),.s (mU p_b.Taken),vi p_b.Next])]⟩) (fun v3=>ref10_Same_J2 p_a p_b v3=some r) ?_ ?_
 ·refine sg ?_
  refine wT [(2,.b 2 0),(3,.b 3 0),(6,vi (0))] [(2,.box [.s (mI p_a.Now.Nodes),vi p_a.Now.Next,vi p_a.Now.Cookie,vi p_a.Tick,.s (mB p_a.Since),.s (mA p_a.Pasts),.s (mU p_a.Taken),vi p_a.Next]),(3,.box [.s (mI p_b.Now.Nodes),vi p_b.Now.Next,vi p_b.Now.Cookie,vi p_b.Tick,.s (mB p_b.Since),.s (mA p_b.Pasts),.s (mU p_b.Taken),vi p_b.Next])] Q3 J2 rfl ?_
  refine bl ?_
  refine Ok.loop (fun (s2:Int)=>⟨Cat.tab [(2,.b 2 0),(3,.b 3 0),(6,vi s2)],[(2,.box [.s (mI p_a.Now.Nodes),vi p_a.Now.Next,vi p_a.Now.Cookie,vi p_a.Tick,.s (mB p_a.Since),.s (mA p_a.Pasts),.s (mU p_a.Taken),vi p_a.Next]),(3,.box [.s (mI p_b.Now.Nodes),vi p_b.Now.Next,vi p_b.Now.Cookie,vi p_b.Tick,.s (mB p_b.Since),.s (mA p_b.Pasts),.s (mU p_b.Taken),vi p_b.Next])]⟩) (ref10_Same_B2 p_a p_b) (s0:=0) h (wt Q3 ⟨⟨_,rfl,.refl _⟩,⟨_,rfl,.refl _⟩,Q0⟩ rfl) ?_
  intro s2 y2 hB2 hy2
  unfold ref10_Same_B2 at hB2
  refine sq ?_
  refine sg ?_
  refine ⟨_,rfl,_,List.length_map _,fun _=>?_⟩
  refine wT [(2,.b 2 0),(3,.b 3 0),(6,vi s2),(79,vb (decide (s2 < (p_a.Pasts.length:Int))))] [(2,.box [.s (mI p_a.Now.Nodes),vi p_a.Now.Next,vi p_a.Now.Cookie,vi p_a.Tick,.s (mB p_a.Since),.s (mA p_a.Pasts),.s (mU p_a.Taken),vi p_a.Next]),(3,.box [.s (mI p_b.Now.Nodes),vi p_b.Now.Next,vi p_b.Now.Cookie,vi p_b.Tick,.s (mB p_b.Since),.s (mA p_b.Pasts),.s (mU p_b.Taken),vi p_b.Next])] Q4 J2 rfl ?_
  refine cn 79 (decide (s2 < (p_a.Pasts.length:Int))) rfl hB2 (fun hb hB2=>?_) fun hb hB2=>?_
  ·refine sk ?_
   refine sq ?_
   refine bl ?_
   refine sg ?_
   obtain ⟨x4,hx4,hB2⟩:=bindS hB2
   refine ⟨_,rfl,_,idx_nat hx4,_,idx_row hx4,_,rfl,_,rfl,?_⟩
   refine wT [(2,.b 2 0),(3,.b 3 0),(6,vi s2),(7,.b 7 0)] [(2,.box [.s (mI p_a.Now.Nodes),vi p_a.Now.Next,vi p_a.Now.Cookie,vi p_a.Tick,.s (mB p_a.Since),.s (mA p_a.Pasts),.s (mU p_a.Taken),vi p_a.Next]),(3,.box [.s (mI p_b.Now.Nodes),vi p_b.Now.Next,vi p_b.Now.Cookie,vi p_b.Tick,.s (mB p_b.Since),.s (mA p_b.Pasts),.s (mU p_b.Taken),vi p_b.Next]),(7,.box [vi x4.From,vi x4.Till,vi x4.Node.Ino,vi x4.Node.Kind,vi x4.Node.Links,.s (mD x4.Node.Data),.s (mC x4.Node.Ents),vi x4.Node.Up])] Q4 J3 rfl ?_
   refine sg ?_
   obtain ⟨x5,hx5,hB2⟩:=bindS hB2
   refine ⟨_,rfl,_,idx_nat hx5,_,idx_row hx5,_,rfl,_,rfl,?_⟩
   refine wT [(2,.b 2 0),(3,.b 3 0),(6,vi s2),(7,.b 7 0),(8,.b 8 0)] [(2,.box [.s (mI p_a.Now.Nodes),vi p_a.Now.Next,vi p_a.Now.Cookie,vi p_a.Tick,.s (mB p_a.Since),.s (mA p_a.Pasts),.s (mU p_a.Taken),vi p_a.Next]),(3,.box [.s (mI p_b.Now.Nodes),vi p_b.Now.Next,vi p_b.Now.Cookie,vi p_b.Tick,.s (mB p_b.Since),.s (mA p_b.Pasts),.s (mU p_b.Taken),vi p_b.Next]),(7,.box [vi x4.From,vi x4.Till,vi x4.Node.Ino,vi x4.Node.Kind,vi x4.Node.Links,.s (mD x4.Node.Data),.s (mC x4.Node.Ents),vi x4.Node.Up]),(8,.box [vi x5.From,vi x5.Till,vi x5.Node.Ino,vi x5.Node.Kind,vi x5.Node.Links,.s (mD x5.Node.Data),.s (mC x5.Node.Ents),vi x5.Node.Up])] Q5 J4 rfl ?_
   obtain ⟨v4,hv4,hB2⟩:=bindS hB2
   refine Ok.seqw ⟨Cat.tab [(2,.b 2 0),(3,.b 3 0),(6,vi s2),(111,vb v4)],[(2,.box [.s (mI p_a.Now.Nodes),vi p_a.Now.Next,vi p_a.Now.Cookie,vi p_a.Tick,.s (mB p_a.Since),.s (mA p_a.Pasts),.s (mU p_a.Taken),vi p_a.Next]),(3,.box [.s (mI p_b.Now.Nodes),vi p_b.Now.Next,vi p_b.Now.Cookie,vi p_b.Tick,.s (mB p_b.Since),.s (mA p_b.Pasts),.s (mU p_b.Taken),vi p_b.Next])]⟩ ?_ ?_
   ·refine rg ?_
    refine ⟨_,rfl,_,rfl,?_⟩
    obtain ⟨c6,hg16,hv4⟩:=bindS hv4
    refine Br.itf hg16 (fun hb hg16=>?_) fun hb hg16=>?_
    ·cases hg16
     obtain ⟨c7,hg17,hv4⟩:=bindS hv4
     replace hg17:=iteT hg17
     cases hg17
     cases hv4
     exact wt Q4 J2 rfl
    refine ⟨_,rfl,_,rfl,?_⟩
    cases hg16
    obtain ⟨c7,hg18,hv4⟩:=bindS hv4
    refine Br.itf hg18 (fun hb hg18=>?_) fun hb hg18=>?_
    ·cases hg18
     cases hv4
     exact wt Q4 J2 rfl
    obtain ⟨x6,hx6,hg18⟩:=bindS hg18
    refine ⟨_,rfl,_,rfl,?_⟩
    refine CallOk.call (w_ref07_SameNode hx6) (LeL.refl _) ?_
    cases hg18
    cases hv4
    exact wt Q4 J2 rfl
   refine cn 111 (v4) rfl hB2 (fun hb hB2=>?_) fun hb hB2=>?_
   ·refine sg ?_
    refine wE [(4,vb false)] Q1 ?_
    refine rt ?_
    have hB2:=out_ret hB2 hy2
    cases hB2
    exact Fz.v
   refine sk ?_
   refine rg ?_
   obtain ⟨hc2,hB2⟩:=chk_some hB2
   refine (Or.inl ⟨hc2,?_⟩)
   exact ⟨_,sj hB2,wt Q3 J2 rfl⟩
  refine xt ?_
  have hB2:=out_ret hB2 hy2
  exact ⟨_,hB2,wt Q2 ⟨⟨_,rfl,.refl _⟩,⟨_,rfl,.refl _⟩,Q0⟩ rfl⟩
 intro v3 h
 unfold ref10_Same_J2 at h
 refine Ok.seqj (fun v5=>⟨Cat.tab [],[]⟩) (fun v5=>ref10_Same_J3 v5=some r) ?_ ?_
 ·refine sg ?_
  refine wT [(2,.b 2 0),(3,.b 3 0),(9,vi (0))] [(2,.box [.s (mI p_a.Now.Nodes),vi p_a.Now.Next,vi p_a.Now.Cookie,vi p_a.Tick,.s (mB p_a.Since),.s (mA p_a.Pasts),.s (mU p_a.Taken),vi p_a.Next]),(3,.box [.s (mI p_b.Now.Nodes),vi p_b.Now.Next,vi p_b.Now.Cookie,vi p_b.Tick,.s (mB p_b.Since),.s (mA p_b.Pasts),.s (mU p_b.Taken),vi p_b.Next])] Q3 J2 rfl ?_
  refine bl ?_
  refine Ok.loop (fun (s3:Int)=>⟨Cat.tab [(2,.b 2 0),(3,.b 3 0),(9,vi s3)],[(2,.box [.s (mI p_a.Now.Nodes),vi p_a.Now.Next,vi p_a.Now.Cookie,vi p_a.Tick,.s (mB p_a.Since),.s (mA p_a.Pasts),.s (mU p_a.Taken),vi p_a.Next]),(3,.box [.s (mI p_b.Now.Nodes),vi p_b.Now.Next,vi p_b.Now.Cookie,vi p_b.Tick,.s (mB p_b.Since),.s (mA p_b.Pasts),.s (mU p_b.Taken),vi p_b.Next])]⟩) (ref10_Same_B3 p_a p_b) (s0:=0) h (wt Q3 ⟨⟨_,rfl,.refl _⟩,⟨_,rfl,.refl _⟩,Q0⟩ rfl) ?_
  intro s3 y3 hB3 hy3
  unfold ref10_Same_B3 at hB3
  refine sq ?_
  refine sg ?_
  refine ⟨_,rfl,_,List.length_map _,fun _=>?_⟩
  refine wT [(2,.b 2 0),(3,.b 3 0),(9,vi s3),(116,vb (decide (s3 < (p_a.Taken.length:Int))))] [(2,.box [.s (mI p_a.Now.Nodes),vi p_a.Now.Next,vi p_a.Now.Cookie,vi p_a.Tick,.s (mB p_a.Since),.s (mA p_a.Pasts),.s (mU p_a.Taken),vi p_a.Next]),(3,.box [.s (mI p_b.Now.Nodes),vi p_b.Now.Next,vi p_b.Now.Cookie,vi p_b.Tick,.s (mB p_b.Since),.s (mA p_b.Pasts),.s (mU p_b.Taken),vi p_b.Next])] Q4 J2 rfl ?_
  refine cn 116 (decide (s3 < (p_a.Taken.length:Int))) rfl hB3 (fun hb hB3=>?_) fun hb hB3=>?_
  ·refine sk ?_
   refine sq ?_
   refine bl ?_
   refine sq ?_
   refine Ok.draw (m:=11) (MD:=⟨[]⟩) (CH:=⟨[]⟩) Tryz.tok Tryz.mixed (by kernel_rfl) ?_
   obtain ⟨x7,hx7,hB3⟩:=bindS hB3
   obtain ⟨x8,hx8,hB3⟩:=bindS hB3
   refine ⟨_,rfl,_,⟨_,rfl,rfl⟩,_,rfl,_,⟨_,idx_nat hx7,_,idx_row hx7,rfl⟩,_,⟨_,rfl,rfl⟩,_,rfl,_,⟨_,rfl,rfl⟩,_,rfl,_,⟨_,idx_nat hx8,_,idx_row hx8,rfl⟩,_,⟨_,rfl,rfl⟩,_,⟨[.one (.int .i64),.one (.int .i64),.one (.int .i64)],by kernel_rfl,rfl⟩,Q0,?_⟩
   refine wT [(2,.b 2 0),(3,.b 3 0),(9,vi s3),(129,vb (!(x7.Id == x8.Id&&(x7.Ino == x8.Ino&&(x7.At == x8.At&&true)))))] [(2,.box [.s (mI p_a.Now.Nodes),vi p_a.Now.Next,vi p_a.Now.Cookie,vi p_a.Tick,.s (mB p_a.Since),.s (mA p_a.Pasts),.s (mU p_a.Taken),vi p_a.Next]),(3,.box [.s (mI p_b.Now.Nodes),vi p_b.Now.Next,vi p_b.Now.Cookie,vi p_b.Tick,.s (mB p_b.Since),.s (mA p_b.Pasts),.s (mU p_b.Taken),vi p_b.Next])] Q4 J2 rfl ?_
   refine cn 129 (!(x7.Id == x8.Id&&(x7.Ino == x8.Ino&&(x7.At == x8.At&&true)))) rfl hB3 (fun hb hB3=>?_) fun hb hB3=>?_
   ·refine sg ?_
    refine wE [(4,vb false)] Q1 ?_
    refine rt ?_
    have hB3:=out_ret hB3 hy3
    cases hB3
    exact Fz.v
   refine sk ?_
   refine rg ?_
   obtain ⟨hc3,hB3⟩:=chk_some hB3
   refine (Or.inl ⟨hc3,?_⟩)
   exact ⟨_,sj hB3,wt Q3 J2 rfl⟩
  refine xt ?_
  have hB3:=out_ret hB3 hy3
  exact ⟨_,hB3,wt Q0 Q0 rfl⟩
 intro v5 h
 unfold ref10_Same_J3 at h
 refine sg ?_
 refine wE [(4,vb true)] Q1 ?_
 refine rt ?_
 cases h
 exact Fz.v
set_option maxHeartbeats 4000000 in
theorem w_ref10_under {p_l} {p_ino} {r} (h:ref10_under p_l p_ino=some r):Pure Tryz.prog 46 [(.s (mI p_l)),(vi p_ino)] (.t [(.s (mE r.1)),(vb r.2)]):=by
 refine po Tryz.tok 73 Tryz.func46 (by kernel_rfl) rfl rfl rfl ?_
 unfold ref10_under at h
 refine wE [(0,.s (mI p_l)),(1,vi p_ino)] Q2 ?_
 refine sg ?_
 refine wE [(0,.s (mI p_l)),(1,vi p_ino)] Q2 ?_
 refine sg ?_
 obtain ⟨hc1,h⟩:=chk_some h
 refine ⟨_,List.length_map _,fun _=>Or.inr ⟨_,_,mk_nat hc1,mk_nat hc1,Nat.le_refl _,mk_le (by decide) hc1,hc1.2,_,(List.map_replicate (f:=cB) (a:=(false:Bool))).symm,?_⟩⟩
 refine wT [(0,.s (mI p_l)),(1,vi p_ino),(6,.o 16)] [(16,.own 4 1 (mE (List.replicate (p_l.length:Int).toNat (false:Bool))))] Q3 J1 rfl ?_
 refine sg ?_
 refine ⟨_,rfl,?_⟩
 refine wT [(0,.s (mI p_l)),(1,vi p_ino),(6,.o 16),(7,.b 7 0)] [(16,.own 4 1 (mE (List.replicate (p_l.length:Int).toNat (false:Bool)))),(7,.box [.s (mI p_l),vi (0),vi (0)])] Q4 J2 rfl ?_
 refine sg ?_
 refine Or.inr ?_
 refine wT [(0,.s (mI p_l)),(6,.o 16),(7,.b 7 0),(8,.o 20)] [(16,.own 4 1 (mE (List.replicate (p_l.length:Int).toNat (false:Bool)))),(7,.box [.s (mI p_l),vi (0),vi (0)]),(20,.own 3 1 (mB ([p_ino])))] Q4 J3 rfl ?_
 refine Ok.seqj (fun v1=>⟨Cat.tab [(6,.o 16)],[(16,.own 4 1 (mE v1))]⟩) (fun v1=>ref10_under_J1 v1=some r) ?_ ?_
 ·refine sg ?_
  refine wT [(0,.s (mI p_l)),(6,.o 16),(7,.b 7 0),(8,.o 20),(9,vi (0))] [(16,.own 4 1 (mE (List.replicate (p_l.length:Int).toNat (false:Bool)))),(7,.box [.s (mI p_l),vi (0),vi (0)]),(20,.own 3 1 (mB ([p_ino])))] Q5 J3 rfl ?_
  refine bl ?_
  refine Ok.loop (fun (s1:Int×(List Bool)×(List Int))=>⟨Cat.tab [(0,.s (mI p_l)),(6,.o 16),(7,.b 7 0),(8,.o 20),(9,vi s1.1)],[(16,.own 4 1 (mE s1.2.1)),(7,.box [.s (mI p_l),vi (0),vi (0)]),(20,.own 3 1 (mB s1.2.2))]⟩) (ref10_under_B1 p_l) (s0:=(0,List.replicate (p_l.length:Int).toNat (false:Bool),[p_ino])) h (wt Q5 ⟨⟨_,rfl,.refl _⟩,⟨_,rfl,.refl _⟩,⟨_,rfl,.refl _⟩,Q0⟩ rfl) ?_
  intro s1 y1 hB1 hy1
  unfold ref10_under_B1 at hB1
  refine sq ?_
  refine sg ?_
  refine ⟨_,List.length_map _,fun _=>?_⟩
  refine wT [(0,.s (mI p_l)),(6,.o 16),(7,.b 7 0),(8,.o 20),(9,vi s1.1),(24,vb (decide (s1.1 < (s1.2.2.length:Int))))] [(16,.own 4 1 (mE s1.2.1)),(7,.box [.s (mI p_l),vi (0),vi (0)]),(20,.own 3 1 (mB s1.2.2))] Q6 J3 rfl ?_
  refine cn 24 (decide (s1.1 < (s1.2.2.length:Int))) rfl hB1 (fun hb hB1=>?_) fun hb hB1=>?_
  ·refine sk ?_
   refine Ok.seqj (fun v2=>⟨Cat.tab [(0,.s (mI p_l)),(6,.o 16),(7,.b 7 0),(8,.o 20),(9,vi s1.1)],[(16,.own 4 1 (mE v2.1)),(7,.box [.s (mI p_l),vi (0),vi (0)]),(20,.own 3 1 (mB v2.2))]⟩) (fun v2=>ref10_under_J2 s1 v2=some y1) ?_ ?_
   ·refine bl ?_
    refine sq ?_
    refine Ok.draw2 (m:=10) (late:=[8]) (MD:=⟨[]⟩) (CH:=⟨[]⟩) Tryz.tok Tryz.mixed (by kernel_rfl) ?_
    obtain ⟨x1,hx1,hB1⟩:=bindS hB1
    obtain ⟨x2,hx2,hB1⟩:=bindS hB1
    refine ⟨_,⟨_,rfl,rfl⟩,_,rfl,_,rfl,_,⟨_,idx_nat hx1,idx_ltm hx1,rfl⟩,_,⟨_,idx_row hx1,rfl,_,rfl,rfl⟩,_,⟨_,.of_pure (w_ref07_Get hx2) (LeL.refl _),rfl⟩,_,rfl,_,rfl,_,rfl,Q0,?_⟩
    refine ⟨_,rfl,⟨⟨_,rfl,rfl⟩,Q0⟩,?_⟩
    refine wT [(0,.s (mI p_l)),(6,.o 16),(7,.b 7 0),(8,.o 20),(9,vi s1.1),(10,.b 10 0),(11,vb x2.2)] [(16,.own 4 1 (mE s1.2.1)),(7,.box [.s (mI p_l),vi (0),vi (0)]),(20,.own 3 1 (mB s1.2.2)),(10,.box [vi x2.1.Ino,vi x2.1.Kind,vi x2.1.Links,.s (mD x2.1.Data),.s (mC x2.1.Ents),vi x2.1.Up])] Q7 J4 rfl ?_
    refine sq ?_
    refine sg ?_
    refine wT [(0,.s (mI p_l)),(6,.o 16),(7,.b 7 0),(8,.o 20),(9,vi s1.1),(10,.b 10 0),(37,vb (!x2.2))] [(16,.own 4 1 (mE s1.2.1)),(7,.box [.s (mI p_l),vi (0),vi (0)]),(20,.own 3 1 (mB s1.2.2)),(10,.box [vi x2.1.Ino,vi x2.1.Kind,vi x2.1.Links,.s (mD x2.1.Data),.s (mC x2.1.Ents),vi x2.1.Up])] Q7 J4 rfl ?_
    refine cn 37 (!x2.2) rfl hB1 (fun hb hB1=>?_) fun hb hB1=>?_
    ·refine sg ?_
     refine wT [(4,.o 16),(5,vb false)] [(16,.own 4 1 (mE s1.2.1))] Q2 J1 rfl ?_
     refine rt ?_
     have hB1:=out_ret hB1 hy1
     cases hB1
     exact (Fz.t (.cons (Fz.o rfl) (.cons Fz.v .nil)))
    refine sk ?_
    refine sg ?_
    refine wT [(0,.s (mI p_l)),(6,.o 16),(7,.b 7 0),(8,.o 20),(9,vi s1.1),(10,.b 10 0),(12,vi (0))] [(16,.own 4 1 (mE s1.2.1)),(7,.box [.s (mI p_l),vi (0),vi (0)]),(20,.own 3 1 (mB s1.2.2)),(10,.box [vi x2.1.Ino,vi x2.1.Kind,vi x2.1.Links,.s (mD x2.1.Data),.s (mC x2.1.Ents),vi x2.1.Up])] Q7 J4 rfl ?_
    obtain ⟨v3,hv3,hB1⟩:=bindS hB1
    refine Ok.seqw ⟨Cat.tab [(0,.s (mI p_l)),(6,.o 16),(7,.b 7 0),(8,.o 20),(9,vi s1.1),(10,.b 10 0),(12,vi v3)],[(16,.own 4 1 (mE s1.2.1)),(7,.box [.s (mI p_l),vi (0),vi (0)]),(20,.own 3 1 (mB s1.2.2)),(10,.box [vi x2.1.Ino,vi x2.1.Kind,vi x2.1.Links,.s (mD x2.1.Data),.s (mC x2.1.Ents),vi x2.1.Up])]⟩ ?_ ?_
    ·refine bl ?_
     refine Ok.loop (fun (s2:Int)=>⟨Cat.tab [(0,.s (mI p_l)),(6,.o 16),(7,.b 7 0),(8,.o 20),(9,vi s1.1),(10,.b 10 0),(12,vi s2)],[(16,.own 4 1 (mE s1.2.1)),(7,.box [.s (mI p_l),vi (0),vi (0)]),(20,.own 3 1 (mB s1.2.2)),(10,.box [vi x2.1.Ino,vi x2.1.Kind,vi x2.1.Links,.s (mD x2.1.Data),.s (mC x2.1.Ents),vi x2.1.Up])]⟩) (ref10_under_B2 p_l x2) (s0:=0) hv3 (wt Q7 ⟨⟨_,rfl,.refl _⟩,⟨_,rfl,.refl _⟩,⟨_,rfl,.refl _⟩,⟨_,rfl,.refl _⟩,Q0⟩ rfl) ?_
     intro s2 y2 hB2 hy2
     unfold ref10_under_B2 at hB2
     refine sq ?_
     refine sq ?_
     refine Ok.draw (m:=8) (MD:=⟨[]⟩) (CH:=⟨[]⟩) Tryz.tok Tryz.mixed (by kernel_rfl) ?_
     obtain ⟨x3,hx3,hB2⟩:=bindS hB2
     refine ⟨_,rfl,_,rfl,_,⟨_,idx_nat hx3,_,idx_row hx3,rfl⟩,_,rfl,_,⟨_,rfl,rfl⟩,_,rfl,_,⟨_,rfl,rfl⟩,_,rfl,Q0,?_⟩
     refine wT [(0,.s (mI p_l)),(6,.o 16),(7,.b 7 0),(8,.o 20),(9,vi s1.1),(10,.b 10 0),(12,vi s2),(46,vb (x3.Ino != x2.1.Ino))] [(16,.own 4 1 (mE s1.2.1)),(7,.box [.s (mI p_l),vi (0),vi (0)]),(20,.own 3 1 (mB s1.2.2)),(10,.box [vi x2.1.Ino,vi x2.1.Kind,vi x2.1.Links,.s (mD x2.1.Data),.s (mC x2.1.Ents),vi x2.1.Up])] Q8 J4 rfl ?_
     refine cn 46 (x3.Ino != x2.1.Ino) rfl hB2 (fun hb hB2=>?_) fun hb hB2=>?_
     ·refine sk ?_
      refine bl ?_
      refine rg ?_
      obtain ⟨hc2,hB2⟩:=chk_some hB2
      refine (Or.inl ⟨hc2,?_⟩)
      exact ⟨_,sj hB2,wt Q7 J4 rfl⟩
     refine xt ?_
     have hB2:=out_ret hB2 hy2
     cases hB2
     exact wt Q7 J4 rfl
    refine sq ?_
    refine sg ?_
    obtain ⟨x4,hx4,hB1⟩:=bindS hB1
    refine ⟨_,idx_nat hx4,idx_ltm hx4,_,idx_row hx4,rfl,_,rfl,?_⟩
    refine wT [(0,.s (mI p_l)),(6,.o 16),(7,.b 7 0),(8,.o 20),(9,vi s1.1),(10,.b 10 0),(12,vi v3),(52,vb x4)] [(16,.own 4 1 (mE s1.2.1)),(7,.box [.s (mI p_l),vi (0),vi (0)]),(20,.own 3 1 (mB s1.2.2)),(10,.box [vi x2.1.Ino,vi x2.1.Kind,vi x2.1.Links,.s (mD x2.1.Data),.s (mC x2.1.Ents),vi x2.1.Up])] Q8 J4 rfl ?_
    refine cn 52 (x4) rfl hB1 (fun hb hB1=>?_) fun hb hB1=>?_
    ·refine xt ?_
     exact ⟨_,hB1,wt Q5 ⟨⟨_,rfl,.refl _⟩,⟨_,rfl,.refl _⟩,⟨_,rfl,.refl _⟩,Q0⟩ rfl⟩
    refine sk ?_
    refine sg ?_
    obtain ⟨x5,hx5,hB1⟩:=bindS hB1
    refine ⟨_,idx_nat hx5,idx_ltm hx5,_,idx_row hx5,rfl,_,rfl,_,set_row (f:=cB) (x:=true),?_⟩
    refine wT [(0,.s (mI p_l)),(6,.o 16),(7,.b 7 0),(8,.o 20),(9,vi s1.1),(10,.b 10 0)] [(16,.own 4 1 (mE (s1.2.1.set v3.toNat true))),(7,.box [.s (mI p_l),vi (0),vi (0)]),(20,.own 3 1 (mB s1.2.2)),(10,.box [vi x2.1.Ino,vi x2.1.Kind,vi x2.1.Links,.s (mD x2.1.Data),.s (mC x2.1.Ents),vi x2.1.Up])] Q6 J4 rfl ?_
    refine sg ?_
    refine wT [(0,.s (mI p_l)),(6,.o 16),(7,.b 7 0),(8,.o 20),(9,vi s1.1),(10,.b 10 0),(13,vi (0))] [(16,.own 4 1 (mE (s1.2.1.set v3.toNat true))),(7,.box [.s (mI p_l),vi (0),vi (0)]),(20,.own 3 1 (mB s1.2.2)),(10,.box [vi x2.1.Ino,vi x2.1.Kind,vi x2.1.Links,.s (mD x2.1.Data),.s (mC x2.1.Ents),vi x2.1.Up])] Q7 J4 rfl ?_
    refine bl ?_
    refine Ok.loop (fun (s3:Int×(List Int))=>⟨Cat.tab [(0,.s (mI p_l)),(6,.o 16),(7,.b 7 0),(8,.o 20),(9,vi s1.1),(10,.b 10 0),(13,vi s3.1)],[(16,.own 4 1 (mE (s1.2.1.set v3.toNat true))),(7,.box [.s (mI p_l),vi (0),vi (0)]),(20,.own 3 1 (mB s3.2)),(10,.box [vi x2.1.Ino,vi x2.1.Kind,vi x2.1.Links,.s (mD x2.1.Data),.s (mC x2.1.Ents),vi x2.1.Up])]⟩) (ref10_under_B3 x2 s1 v3) (s0:=(0,s1.2.2)) hB1 (wt Q7 ⟨⟨_,rfl,.refl _⟩,⟨_,rfl,.refl _⟩,⟨_,rfl,.refl _⟩,⟨_,rfl,.refl _⟩,Q0⟩ rfl) ?_
    intro s3 y3 hB3 hy3
    unfold ref10_under_B3 at hB3
    refine sq ?_
    refine sg ?_
    refine ⟨_,rfl,_,List.length_map _,fun _=>?_⟩
    refine wT [(0,.s (mI p_l)),(6,.o 16),(7,.b 7 0),(8,.o 20),(9,vi s1.1),(10,.b 10 0),(13,vi s3.1),(60,vb (decide (s3.1 < (x2.1.Ents.length:Int))))] [(16,.own 4 1 (mE (s1.2.1.set v3.toNat true))),(7,.box [.s (mI p_l),vi (0),vi (0)]),(20,.own 3 1 (mB s3.2)),(10,.box [vi x2.1.Ino,vi x2.1.Kind,vi x2.1.Links,.s (mD x2.1.Data),.s (mC x2.1.Ents),vi x2.1.Up])] Q8 J4 rfl ?_
    refine cn 60 (decide (s3.1 < (x2.1.Ents.length:Int))) rfl hB3 (fun hb hB3=>?_) fun hb hB3=>?_
    ·refine sk ?_
     refine sq ?_
     refine bl ?_
     refine rg ?_
     obtain ⟨x6,hx6,hB3⟩:=bindS hB3
     obtain ⟨hc3,hB3⟩:=chk_some hB3
     refine ⟨_,rfl,_,idx_nat hx6,_,idx_row hx6,_,rfl,Or.inl ⟨rowsLen_map (f:=Go.Cat.encI) (n:=1) (fun _=>rfl) ([x6.Ino]),app_b2 (f:=Go.Cat.encI) (l:=s3.2) (l':=[x6.Ino]) hc3,_,(List.map_append (f:=Go.Cat.encI) (l₁:=s3.2) (l₂:=[x6.Ino])).symm,?_⟩⟩
     refine wT [(0,.s (mI p_l)),(6,.o 16),(7,.b 7 0),(8,.o 20),(9,vi s1.1),(10,.b 10 0),(13,vi s3.1)] [(16,.own 4 1 (mE (s1.2.1.set v3.toNat true))),(7,.box [.s (mI p_l),vi (0),vi (0)]),(20,.own 3 1 (mB (s3.2++[x6.Ino]))),(10,.box [vi x2.1.Ino,vi x2.1.Kind,vi x2.1.Links,.s (mD x2.1.Data),.s (mC x2.1.Ents),vi x2.1.Up])] Q7 J4 rfl ?_
     refine rg ?_
     obtain ⟨hc4,hB3⟩:=chk_some hB3
     refine (Or.inl ⟨hc4,?_⟩)
     exact ⟨_,sj hB3,wt Q7 J4 rfl⟩
    refine xt ?_
    have hB3:=out_ret hB3 hy3
    exact ⟨_,hB3,wt Q5 ⟨⟨_,rfl,.refl _⟩,⟨_,rfl,.refl _⟩,⟨_,rfl,.refl _⟩,Q0⟩ rfl⟩
   intro v2 hB1
   unfold ref10_under_J2 at hB1
   refine rg ?_
   obtain ⟨hc5,hB1⟩:=chk_some hB1
   refine (Or.inl ⟨hc5,?_⟩)
   exact ⟨_,sj hB1,wt Q5 J3 rfl⟩
  refine xt ?_
  have hB1:=out_ret hB1 hy1
  exact ⟨_,hB1,wt Q1 ⟨⟨_,rfl,.refl _⟩,Q0⟩ rfl⟩
 intro v1 h
 unfold ref10_under_J1 at h
 refine sg ?_
 refine wT [(4,.o 16),(5,vb true)] [(16,.own 4 1 (mE v1))] Q2 J1 rfl ?_
 refine rt ?_
 cases h
 exact (Fz.t (.cons (Fz.o rfl) (.cons Fz.v .nil)))
theorem wo_ref10_Below {p_t} {p_ino} {r} (h:ref10_Below p_t p_ino=some r):POwn Tryz.prog 21 [(.a [(.s (mI p_t.Nodes)),(vi p_t.Next),(vi p_t.Cookie)]),(vi p_ino)] 55 6 (mI r):=by
 refine pw Tryz.tok 37 Tryz.func21 (by kernel_rfl) rfl rfl rfl ?_
 unfold ref10_Below at h
 refine wE [(0,.a [.s (mI p_t.Nodes),vi p_t.Next,vi p_t.Cookie]),(1,vi p_ino)] Q2 ?_
 refine sg ?_
 refine wT [(1,vi p_ino),(2,.b 2 0)] [(2,.box [.s (mI p_t.Nodes),vi p_t.Next,vi p_t.Cookie])] Q2 J1 rfl ?_
 refine sg ?_
 obtain ⟨x1,hx1,h⟩:=bindS h
 refine ⟨_,rfl,?_⟩
 refine CallOk.call (w_ref10_under hx1) (LeL.refl _) ?_
 refine wT [(2,.b 2 0),(5,.s (mE x1.1))] [(2,.box [.s (mI p_t.Nodes),vi p_t.Next,vi p_t.Cookie])] Q2 J1 rfl ?_
 refine sg ?_
 refine Or.inr ?_
 refine wT [(2,.b 2 0),(5,.s (mE x1.1)),(7,.o 16)] [(2,.box [.s (mI p_t.Nodes),vi p_t.Next,vi p_t.Cookie]),(16,.own 55 6 (mI ([]:List api_Node)))] Q3 J2 rfl ?_
 obtain ⟨v1,hv1,h⟩:=bindS h
 refine Ok.seqw ⟨Cat.tab [(7,.o 16)],[(16,.own 55 6 (mI v1))]⟩ ?_ ?_
 ·refine sg ?_
  refine wT [(2,.b 2 0),(5,.s (mE x1.1)),(7,.o 16),(8,vi (0))] [(2,.box [.s (mI p_t.Nodes),vi p_t.Next,vi p_t.Cookie]),(16,.own 55 6 (mI ([]:List api_Node)))] Q4 J2 rfl ?_
  refine bl ?_
  refine Ok.loop (fun (s1:Int×(List api_Node))=>⟨Cat.tab [(2,.b 2 0),(5,.s (mE x1.1)),(7,.o 16),(8,vi s1.1)],[(2,.box [.s (mI p_t.Nodes),vi p_t.Next,vi p_t.Cookie]),(16,.own 55 6 (mI s1.2))]⟩) (ref10_Below_B1 p_t x1) (s0:=(0,([]:List api_Node))) hv1 (wt Q4 ⟨⟨_,rfl,.refl _⟩,⟨_,rfl,.refl _⟩,Q0⟩ rfl) ?_
  intro s1 y1 hB1 hy1
  unfold ref10_Below_B1 at hB1
  refine sq ?_
  refine sg ?_
  refine ⟨_,rfl,_,List.length_map _,fun _=>?_⟩
  refine wT [(2,.b 2 0),(5,.s (mE x1.1)),(7,.o 16),(8,vi s1.1),(21,vb (decide (s1.1 < (p_t.Nodes.length:Int))))] [(2,.box [.s (mI p_t.Nodes),vi p_t.Next,vi p_t.Cookie]),(16,.own 55 6 (mI s1.2))] Q5 J2 rfl ?_
  refine cn 21 (decide (s1.1 < (p_t.Nodes.length:Int))) rfl hB1 (fun hb hB1=>?_) fun hb hB1=>?_
  ·refine sk ?_
   obtain ⟨v2,hv2,hB1⟩:=bindS hB1
   refine Ok.seqw ⟨Cat.tab [(2,.b 2 0),(5,.s (mE x1.1)),(7,.o 16),(8,vi s1.1)],[(2,.box [.s (mI p_t.Nodes),vi p_t.Next,vi p_t.Cookie]),(16,.own 55 6 (mI v2))]⟩ ?_ ?_
   ·refine bl ?_
    refine sg ?_
    obtain ⟨x2,hx2,hv2⟩:=bindS hv2
    refine ⟨_,idx_nat hx2,_,idx_row hx2,_,rfl,?_⟩
    refine wT [(2,.b 2 0),(5,.s (mE x1.1)),(7,.o 16),(8,vi s1.1),(27,vb x2)] [(2,.box [.s (mI p_t.Nodes),vi p_t.Next,vi p_t.Cookie]),(16,.own 55 6 (mI s1.2))] Q5 J2 rfl ?_
    refine cn 27 (x2) rfl hv2 (fun hb hv2=>?_) fun hb hv2=>?_
    ·refine rg ?_
     obtain ⟨x3,hx3,hv2⟩:=bindS hv2
     obtain ⟨hc1,hv2⟩:=chk_some hv2
     refine ⟨_,rfl,_,idx_nat hx3,_,idx_row hx3,_,rfl,Or.inl ⟨rowsLen_map (f:=c_api_Node) (n:=6) (fun _=>rfl) ([x3]),app_b2 (f:=c_api_Node) (l:=s1.2) (l':=[x3]) hc1,_,(List.map_append (f:=c_api_Node) (l₁:=s1.2) (l₂:=[x3])).symm,?_⟩⟩
     cases hv2
     exact wt Q4 J2 rfl
    refine sk ?_
    cases hv2
    exact wt Q4 J2 rfl
   refine rg ?_
   obtain ⟨hc2,hB1⟩:=chk_some hB1
   refine (Or.inl ⟨hc2,?_⟩)
   exact ⟨_,sj hB1,wt Q4 J2 rfl⟩
  refine xt ?_
  have hB1:=out_ret hB1 hy1
  cases hB1
  exact wt Q1 J1 rfl
 refine sg ?_
 refine wT [(4,.o 16)] [(16,.own 55 6 (mI v1))] Q1 J1 rfl ?_
 refine rt ?_
 cases h
 exact (.inr ⟨_,rfl,rfl⟩)
theorem w_ref10_Below {p_t} {p_ino} {r} (h:ref10_Below p_t p_ino=some r):Pure Tryz.prog 21 [(.a [(.s (mI p_t.Nodes)),(vi p_t.Next),(vi p_t.Cookie)]),(vi p_ino)] (.s (mI r)):=(wo_ref10_Below h).pure
set_option maxHeartbeats 4000000 in
theorem w_law10_ShotTaken {p_l} {p_n} {r} (h:law10_ShotTaken p_l p_n=some r):Pure Tryz.prog 5 [(.s (mF p_l)),(vu p_n)] (vb r):=by
 refine po Tryz.tok 141 Tryz.func5 (by kernel_rfl) rfl rfl rfl ?_
 unfold law10_ShotTaken at h
 refine wE [(0,.s (mF p_l)),(1,vu p_n)] Q2 ?_
 refine sg ?_
 refine wE [(0,.s (mF p_l)),(1,vu p_n)] Q2 ?_
 refine sg ?_
 obtain ⟨x1,hx1,h⟩:=bindS h
 refine CallOk.call (w_law10_head hx1) (LeL.refl _) ?_
 refine wE [(0,.s (mF p_l)),(1,vu p_n),(5,vb x1)] Q3 ?_
 refine sq ?_
 refine sg ?_
 obtain ⟨x2,hx2,h⟩:=bindS h
 refine CallOk.call (w_law10_Great hx2) (LeL.refl _) ?_
 refine wE [(0,.s (mF p_l)),(1,vu p_n),(5,vb x1),(18,vb x2)] Q4 ?_
 refine cn 18 (x2) rfl h (fun hb h=>?_) fun hb h=>?_
 ·refine sg ?_
  refine wE [(4,vb x1)] Q1 ?_
  refine rt ?_
  cases h
  exact Fz.v
 refine sk ?_
 refine sg ?_
 obtain ⟨x3,hx3,h⟩:=bindS h
 refine CallOk.call (w_law10_Made hx3) (LeL.refl _) ?_
 refine ⟨_,rfl,?_⟩
 refine wT [(1,vu p_n),(5,vb x1),(6,.b 6 0)] [(6,.box [.s (mI x3.Now.Nodes),vi x3.Now.Next,vi x3.Now.Cookie,vi x3.Tick,.s (mB x3.Since),.s (mA x3.Pasts),.s (mU x3.Taken),vi x3.Next])] Q3 J1 rfl ?_
 refine sg ?_
 obtain ⟨x4,hx4,h⟩:=bindS h
 refine ⟨_,rfl,?_⟩
 refine CallOk.call (w_law07_Node hx4) (LeL.refl _) ?_
 refine wT [(5,vb x1),(6,.b 6 0),(7,vi x4)] [(6,.box [.s (mI x3.Now.Nodes),vi x3.Now.Next,vi x3.Now.Cookie,vi x3.Tick,.s (mB x3.Since),.s (mA x3.Pasts),.s (mU x3.Taken),vi x3.Next])] Q3 J1 rfl ?_
 refine sg ?_
 obtain ⟨x5,hx5,h⟩:=bindS h
 refine ⟨_,rfl,?_⟩
 refine CallOk.call (w_ref07_Get hx5) (LeL.refl _) ?_
 refine ⟨_,rfl,?_⟩
 refine wT [(5,vb x1),(6,.b 6 0),(7,vi x4),(8,.b 8 0),(9,vb x5.2)] [(6,.box [.s (mI x3.Now.Nodes),vi x3.Now.Next,vi x3.Now.Cookie,vi x3.Tick,.s (mB x3.Since),.s (mA x3.Pasts),.s (mU x3.Taken),vi x3.Next]),(8,.box [vi x5.1.Ino,vi x5.1.Kind,vi x5.1.Links,.s (mD x5.1.Data),.s (mC x5.1.Ents),vi x5.1.Up])] Q5 J2 rfl ?_
 refine sg ?_
 obtain ⟨x6,hx6,h⟩:=bindS h
 refine ⟨_,rfl,?_⟩
 refine CallOk.call (w_shot_Take hx6) (LeL.refl _) ?_
 refine ⟨_,rfl,?_⟩
 refine wT [(5,vb x1),(6,.b 6 0),(7,vi x4),(8,.b 8 0),(9,vb x5.2),(10,.b 10 0),(11,vi x6.2.1),(12,vi x6.2.2)] [(6,.box [.s (mI x3.Now.Nodes),vi x3.Now.Next,vi x3.Now.Cookie,vi x3.Tick,.s (mB x3.Since),.s (mA x3.Pasts),.s (mU x3.Taken),vi x3.Next]),(8,.box [vi x5.1.Ino,vi x5.1.Kind,vi x5.1.Links,.s (mD x5.1.Data),.s (mC x5.1.Ents),vi x5.1.Up]),(10,.box [.s (mI x6.1.Now.Nodes),vi x6.1.Now.Next,vi x6.1.Now.Cookie,vi x6.1.Tick,.s (mB x6.1.Since),.s (mA x6.1.Pasts),.s (mU x6.1.Taken),vi x6.1.Next])] Q8 J3 rfl ?_
 refine sq ?_
 refine sg ?_
 refine wT [(5,vb x1),(6,.b 6 0),(7,vi x4),(8,.b 8 0),(9,vb x5.2),(10,.b 10 0),(11,vi x6.2.1),(12,vi x6.2.2),(41,vb (x6.2.2 != 0))] [(6,.box [.s (mI x3.Now.Nodes),vi x3.Now.Next,vi x3.Now.Cookie,vi x3.Tick,.s (mB x3.Since),.s (mA x3.Pasts),.s (mU x3.Taken),vi x3.Next]),(8,.box [vi x5.1.Ino,vi x5.1.Kind,vi x5.1.Links,.s (mD x5.1.Data),.s (mC x5.1.Ents),vi x5.1.Up]),(10,.box [.s (mI x6.1.Now.Nodes),vi x6.1.Now.Next,vi x6.1.Now.Cookie,vi x6.1.Tick,.s (mB x6.1.Since),.s (mA x6.1.Pasts),.s (mU x6.1.Taken),vi x6.1.Next])] ⟨lr,Q8⟩ J3 rfl ?_
 refine cn 41 (x6.2.2 != 0) rfl h (fun hb h=>?_) fun hb h=>?_
 ·obtain ⟨v1,hv1,h⟩:=bindS h
  refine Ok.seqw ⟨Cat.tab [(4,vb v1)],[]⟩ ?_ ?_
  ·refine rg ?_
   obtain ⟨c9,hg1,hv1⟩:=bindS hv1
   refine Br.ite hg1 (fun hb hg1=>?_) fun hb hg1=>?_
   ·obtain ⟨c1,hg2,hg1⟩:=bindS hg1
    refine Br.ite hg2 (fun hb hg2=>?_) fun hb hg2=>?_
    ·cases hg2
     obtain ⟨c4,hg3,hg1⟩:=bindS hg1
     refine Br.itf hg3 (fun hb hg3=>?_) fun hb hg3=>?_
     ·cases hg3
      obtain ⟨c8,hg4,hg1⟩:=bindS hg1
      replace hg4:=iteT hg4
      cases hg4
      cases hg1
      cases hv1
      exact wt Q1 Q0 rfl
     obtain ⟨c2,hg5,hg3⟩:=bindS hg3
     refine Br.ite hg5 (fun hb hg5=>?_) fun hb hg5=>?_
     ·refine ⟨_,rfl,?_⟩
      cases hg5
      obtain ⟨c3,hg6,hg3⟩:=bindS hg3
      refine Br.ite hg6 (fun hb hg6=>?_) fun hb hg6=>?_
      ·cases hg6
       cases hg3
       obtain ⟨c8,hg7,hg1⟩:=bindS hg1
       refine Br.itf hg7 (fun hb hg7=>?_) fun hb hg7=>?_
       ·cases hg7
        cases hg1
        cases hv1
        exact wt Q1 Q0 rfl
       obtain ⟨c5,hg8,hg7⟩:=bindS hg7
       refine Br.ite hg8 (fun hb hg8=>?_) fun hb hg8=>?_
       ·refine ⟨_,rfl,?_⟩
        cases hg8
        obtain ⟨c6,hg9,hg7⟩:=bindS hg7
        refine Br.ite hg9 (fun hb hg9=>?_) fun hb hg9=>?_
        ·cases hg9
         obtain ⟨c7,hg10,hg7⟩:=bindS hg7
         refine Br.ite hg10 (fun hb hg10=>?_) fun hb hg10=>?_
         ·refine ⟨_,rfl,_,List.length_map _,fun _=>?_⟩
          cases hg10
          cases hg7
          cases hg1
          cases hv1
          exact wt Q1 Q0 rfl
         cases hg10
         cases hg7
         cases hg1
         cases hv1
         exact wt Q1 Q0 rfl
        cases hg9
        obtain ⟨c7,hg11,hg7⟩:=bindS hg7
        replace hg11:=iteF hg11
        cases hg11
        cases hg7
        cases hg1
        cases hv1
        exact wt Q1 Q0 rfl
       cases hg8
       obtain ⟨c6,hg12,hg7⟩:=bindS hg7
       replace hg12:=iteF hg12
       cases hg12
       obtain ⟨c7,hg13,hg7⟩:=bindS hg7
       replace hg13:=iteF hg13
       cases hg13
       cases hg7
       cases hg1
       cases hv1
       exact wt Q1 Q0 rfl
      cases hg6
      cases hg3
      obtain ⟨c8,hg14,hg1⟩:=bindS hg1
      replace hg14:=iteF hg14
      obtain ⟨c5,hg15,hg14⟩:=bindS hg14
      refine Br.ite hg15 (fun hb hg15=>?_) fun hb hg15=>?_
      ·refine ⟨_,rfl,?_⟩
       cases hg15
       obtain ⟨c6,hg16,hg14⟩:=bindS hg14
       refine Br.ite hg16 (fun hb hg16=>?_) fun hb hg16=>?_
       ·cases hg16
        obtain ⟨c7,hg17,hg14⟩:=bindS hg14
        refine Br.ite hg17 (fun hb hg17=>?_) fun hb hg17=>?_
        ·refine ⟨_,rfl,_,List.length_map _,fun _=>?_⟩
         cases hg17
         cases hg14
         cases hg1
         cases hv1
         exact wt Q1 Q0 rfl
        cases hg17
        cases hg14
        cases hg1
        cases hv1
        exact wt Q1 Q0 rfl
       cases hg16
       obtain ⟨c7,hg18,hg14⟩:=bindS hg14
       replace hg18:=iteF hg18
       cases hg18
       cases hg14
       cases hg1
       cases hv1
       exact wt Q1 Q0 rfl
      cases hg15
      obtain ⟨c6,hg19,hg14⟩:=bindS hg14
      replace hg19:=iteF hg19
      cases hg19
      obtain ⟨c7,hg20,hg14⟩:=bindS hg14
      replace hg20:=iteF hg20
      cases hg20
      cases hg14
      cases hg1
      cases hv1
      exact wt Q1 Q0 rfl
     cases hg5
     obtain ⟨c3,hg21,hg3⟩:=bindS hg3
     replace hg21:=iteF hg21
     cases hg21
     cases hg3
     obtain ⟨c8,hg22,hg1⟩:=bindS hg1
     replace hg22:=iteF hg22
     obtain ⟨c5,hg23,hg22⟩:=bindS hg22
     refine Br.ite hg23 (fun hb hg23=>?_) fun hb hg23=>?_
     ·refine ⟨_,rfl,?_⟩
      cases hg23
      obtain ⟨c6,hg24,hg22⟩:=bindS hg22
      refine Br.ite hg24 (fun hb hg24=>?_) fun hb hg24=>?_
      ·cases hg24
       obtain ⟨c7,hg25,hg22⟩:=bindS hg22
       refine Br.ite hg25 (fun hb hg25=>?_) fun hb hg25=>?_
       ·refine ⟨_,rfl,_,List.length_map _,fun _=>?_⟩
        cases hg25
        cases hg22
        cases hg1
        cases hv1
        exact wt Q1 Q0 rfl
       cases hg25
       cases hg22
       cases hg1
       cases hv1
       exact wt Q1 Q0 rfl
      cases hg24
      obtain ⟨c7,hg26,hg22⟩:=bindS hg22
      replace hg26:=iteF hg26
      cases hg26
      cases hg22
      cases hg1
      cases hv1
      exact wt Q1 Q0 rfl
     cases hg23
     obtain ⟨c6,hg27,hg22⟩:=bindS hg22
     replace hg27:=iteF hg27
     cases hg27
     obtain ⟨c7,hg28,hg22⟩:=bindS hg22
     replace hg28:=iteF hg28
     cases hg28
     cases hg22
     cases hg1
     cases hv1
     exact wt Q1 Q0 rfl
    cases hg2
    obtain ⟨c4,hg29,hg1⟩:=bindS hg1
    replace hg29:=iteF hg29
    obtain ⟨c2,hg30,hg29⟩:=bindS hg29
    refine Br.ite hg30 (fun hb hg30=>?_) fun hb hg30=>?_
    ·refine ⟨_,rfl,?_⟩
     cases hg30
     obtain ⟨c3,hg31,hg29⟩:=bindS hg29
     refine Br.ite hg31 (fun hb hg31=>?_) fun hb hg31=>?_
     ·cases hg31
      cases hg29
      obtain ⟨c8,hg32,hg1⟩:=bindS hg1
      refine Br.itf hg32 (fun hb hg32=>?_) fun hb hg32=>?_
      ·cases hg32
       cases hg1
       cases hv1
       exact wt Q1 Q0 rfl
      obtain ⟨c5,hg33,hg32⟩:=bindS hg32
      refine Br.ite hg33 (fun hb hg33=>?_) fun hb hg33=>?_
      ·refine ⟨_,rfl,?_⟩
       cases hg33
       obtain ⟨c6,hg34,hg32⟩:=bindS hg32
       refine Br.ite hg34 (fun hb hg34=>?_) fun hb hg34=>?_
       ·cases hg34
        obtain ⟨c7,hg35,hg32⟩:=bindS hg32
        refine Br.ite hg35 (fun hb hg35=>?_) fun hb hg35=>?_
        ·refine ⟨_,rfl,_,List.length_map _,fun _=>?_⟩
         cases hg35
         cases hg32
         cases hg1
         cases hv1
         exact wt Q1 Q0 rfl
        cases hg35
        cases hg32
        cases hg1
        cases hv1
        exact wt Q1 Q0 rfl
       cases hg34
       obtain ⟨c7,hg36,hg32⟩:=bindS hg32
       replace hg36:=iteF hg36
       cases hg36
       cases hg32
       cases hg1
       cases hv1
       exact wt Q1 Q0 rfl
      cases hg33
      obtain ⟨c6,hg37,hg32⟩:=bindS hg32
      replace hg37:=iteF hg37
      cases hg37
      obtain ⟨c7,hg38,hg32⟩:=bindS hg32
      replace hg38:=iteF hg38
      cases hg38
      cases hg32
      cases hg1
      cases hv1
      exact wt Q1 Q0 rfl
     cases hg31
     cases hg29
     obtain ⟨c8,hg39,hg1⟩:=bindS hg1
     replace hg39:=iteF hg39
     obtain ⟨c5,hg40,hg39⟩:=bindS hg39
     refine Br.ite hg40 (fun hb hg40=>?_) fun hb hg40=>?_
     ·refine ⟨_,rfl,?_⟩
      cases hg40
      obtain ⟨c6,hg41,hg39⟩:=bindS hg39
      refine Br.ite hg41 (fun hb hg41=>?_) fun hb hg41=>?_
      ·cases hg41
       obtain ⟨c7,hg42,hg39⟩:=bindS hg39
       refine Br.ite hg42 (fun hb hg42=>?_) fun hb hg42=>?_
       ·refine ⟨_,rfl,_,List.length_map _,fun _=>?_⟩
        cases hg42
        cases hg39
        cases hg1
        cases hv1
        exact wt Q1 Q0 rfl
       cases hg42
       cases hg39
       cases hg1
       cases hv1
       exact wt Q1 Q0 rfl
      cases hg41
      obtain ⟨c7,hg43,hg39⟩:=bindS hg39
      replace hg43:=iteF hg43
      cases hg43
      cases hg39
      cases hg1
      cases hv1
      exact wt Q1 Q0 rfl
     cases hg40
     obtain ⟨c6,hg44,hg39⟩:=bindS hg39
     replace hg44:=iteF hg44
     cases hg44
     obtain ⟨c7,hg45,hg39⟩:=bindS hg39
     replace hg45:=iteF hg45
     cases hg45
     cases hg39
     cases hg1
     cases hv1
     exact wt Q1 Q0 rfl
    cases hg30
    obtain ⟨c3,hg46,hg29⟩:=bindS hg29
    replace hg46:=iteF hg46
    cases hg46
    cases hg29
    obtain ⟨c8,hg47,hg1⟩:=bindS hg1
    replace hg47:=iteF hg47
    obtain ⟨c5,hg48,hg47⟩:=bindS hg47
    refine Br.ite hg48 (fun hb hg48=>?_) fun hb hg48=>?_
    ·refine ⟨_,rfl,?_⟩
     cases hg48
     obtain ⟨c6,hg49,hg47⟩:=bindS hg47
     refine Br.ite hg49 (fun hb hg49=>?_) fun hb hg49=>?_
     ·cases hg49
      obtain ⟨c7,hg50,hg47⟩:=bindS hg47
      refine Br.ite hg50 (fun hb hg50=>?_) fun hb hg50=>?_
      ·refine ⟨_,rfl,_,List.length_map _,fun _=>?_⟩
       cases hg50
       cases hg47
       cases hg1
       cases hv1
       exact wt Q1 Q0 rfl
      cases hg50
      cases hg47
      cases hg1
      cases hv1
      exact wt Q1 Q0 rfl
     cases hg49
     obtain ⟨c7,hg51,hg47⟩:=bindS hg47
     replace hg51:=iteF hg51
     cases hg51
     cases hg47
     cases hg1
     cases hv1
     exact wt Q1 Q0 rfl
    cases hg48
    obtain ⟨c6,hg52,hg47⟩:=bindS hg47
    replace hg52:=iteF hg52
    cases hg52
    obtain ⟨c7,hg53,hg47⟩:=bindS hg47
    replace hg53:=iteF hg53
    cases hg53
    cases hg47
    cases hg1
    cases hv1
    exact wt Q1 Q0 rfl
   cases hg1
   cases hv1
   exact wt Q1 Q0 rfl
  refine rt ?_
  cases h
  exact Fz.v
 refine sk ?_
 refine sg ?_
 obtain ⟨x7,hx7,h⟩:=bindS h
 refine ⟨_,rfl,?_⟩
 refine CallOk.call (w_shot_At hx7) (LeL.refl _) ?_
 refine wT [(5,vb x1),(6,.b 6 0),(7,vi x4),(8,.b 8 0),(10,.b 10 0),(11,vi x6.2.1),(13,vi x7.1),(14,.s (mI x7.2.1)),(15,vi x7.2.2)] [(6,.box [.s (mI x3.Now.Nodes),vi x3.Now.Next,vi x3.Now.Cookie,vi x3.Tick,.s (mB x3.Since),.s (mA x3.Pasts),.s (mU x3.Taken),vi x3.Next]),(8,.box [vi x5.1.Ino,vi x5.1.Kind,vi x5.1.Links,.s (mD x5.1.Data),.s (mC x5.1.Ents),vi x5.1.Up]),(10,.box [.s (mI x6.1.Now.Nodes),vi x6.1.Now.Next,vi x6.1.Now.Cookie,vi x6.1.Tick,.s (mB x6.1.Since),.s (mA x6.1.Pasts),.s (mU x6.1.Taken),vi x6.1.Next])] ⟨lr,Q8⟩ J3 rfl ?_
 refine sq ?_
 obtain ⟨v2,hv2,h⟩:=bindS h
 refine Ok.seqw ⟨Cat.tab [(5,vb x1),(6,.b 6 0),(7,vi x4),(10,.b 10 0),(14,.s (mI x7.2.1)),(115,vb v2)],[(6,.box [.s (mI x3.Now.Nodes),vi x3.Now.Next,vi x3.Now.Cookie,vi x3.Tick,.s (mB x3.Since),.s (mA x3.Pasts),.s (mU x3.Taken),vi x3.Next]),(10,.box [.s (mI x6.1.Now.Nodes),vi x6.1.Now.Next,vi x6.1.Now.Cookie,vi x6.1.Tick,.s (mB x6.1.Since),.s (mA x6.1.Pasts),.s (mU x6.1.Taken),vi x6.1.Next])]⟩ ?_ ?_
 ·refine rg ?_
  obtain ⟨hc1,hv2⟩:=chk_some hv2
  refine ⟨_,rfl,_,List.length_map _,fun _=>⟨_,rfl,_,List.length_map _,fun _=>(Or.inl ⟨hc1,?_⟩)⟩⟩
  obtain ⟨c10,hg54,hv2⟩:=bindS hv2
  refine Br.itf hg54 (fun hb hg54=>?_) fun hb hg54=>?_
  ·cases hg54
   obtain ⟨c11,hg55,hv2⟩:=bindS hv2
   replace hg55:=iteT hg55
   cases hg55
   obtain ⟨c12,hg56,hv2⟩:=bindS hv2
   replace hg56:=iteT hg56
   cases hg56
   obtain ⟨c13,hg57,hv2⟩:=bindS hv2
   replace hg57:=iteT hg57
   cases hg57
   cases hv2
   exact wt Q6 J2 rfl
  cases hg54
  obtain ⟨c11,hg58,hv2⟩:=bindS hv2
  refine Br.itf hg58 (fun hb hg58=>?_) fun hb hg58=>?_
  ·cases hg58
   obtain ⟨c12,hg59,hv2⟩:=bindS hv2
   replace hg59:=iteT hg59
   cases hg59
   obtain ⟨c13,hg60,hv2⟩:=bindS hv2
   replace hg60:=iteT hg60
   cases hg60
   cases hv2
   exact wt Q6 J2 rfl
  cases hg58
  obtain ⟨c12,hg61,hv2⟩:=bindS hv2
  refine Br.itf hg61 (fun hb hg61=>?_) fun hb hg61=>?_
  ·cases hg61
   obtain ⟨c13,hg62,hv2⟩:=bindS hv2
   replace hg62:=iteT hg62
   cases hg62
   cases hv2
   exact wt Q6 J2 rfl
  refine ⟨_,rfl,?_⟩
  cases hg61
  obtain ⟨c13,hg63,hv2⟩:=bindS hv2
  refine Br.itf hg63 (fun hb hg63=>?_) fun hb hg63=>?_
  ·cases hg63
   cases hv2
   exact wt Q6 J2 rfl
  refine ⟨_,rfl,?_⟩
  cases hg63
  cases hv2
  exact wt Q6 J2 rfl
 refine cn 115 (v2) rfl h (fun hb h=>?_) fun hb h=>?_
 ·refine sg ?_
  refine wE [(4,vb false)] Q1 ?_
  refine rt ?_
  cases h
  exact Fz.v
 refine sk ?_
 refine sg ?_
 obtain ⟨hc2,h⟩:=chk_some h
 refine ⟨_,rfl,_,rfl,_,List.length_map _,fun _=>⟨_,sl_nat hc2.1,Nat.zero_le _,sl_len hc2,rowsK (f:=c_api_Shot) (K:=3) (fun _=>rfl) x6.1.Taken,_,sl_take _ _ _,_,rfl,?_⟩⟩
 refine wT [(5,vb x1),(6,.b 6 0),(7,vi x4),(10,.b 10 0),(14,.s (mI x7.2.1))] [(6,.box [.s (mI x3.Now.Nodes),vi x3.Now.Next,vi x3.Now.Cookie,vi x3.Tick,.s (mB x3.Since),.s (mA x3.Pasts),.s (mU x3.Taken),vi x3.Next]),(10,.box [.s (mI x6.1.Now.Nodes),vi x6.1.Now.Next,vi x6.1.Now.Cookie,vi x6.1.Tick,.s (mB x6.1.Since),.s (mA x6.1.Pasts),.s (mU (x6.1.Taken.take (x3.Taken.length:Int).toNat)),vi x6.1.Next])] Q5 J2 rfl ?_
 refine sg ?_
 obtain ⟨hc3,h⟩:=chk_some h
 refine ⟨_,rfl,(Or.inl ⟨hc3,_,rfl,?_⟩)⟩
 refine wT [(5,vb x1),(6,.b 6 0),(7,vi x4),(10,.b 10 0),(14,.s (mI x7.2.1))] [(6,.box [.s (mI x3.Now.Nodes),vi x3.Now.Next,vi x3.Now.Cookie,vi x3.Tick,.s (mB x3.Since),.s (mA x3.Pasts),.s (mU x3.Taken),vi x3.Next]),(10,.box [.s (mI x6.1.Now.Nodes),vi x6.1.Now.Next,vi x6.1.Now.Cookie,vi x6.1.Tick,.s (mB x6.1.Since),.s (mA x6.1.Pasts),.s (mU (x6.1.Taken.take (x3.Taken.length:Int).toNat)),vi (x6.1.Next - 1)])] Q5 J2 rfl ?_
 obtain ⟨v3,hv3,h⟩:=bindS h
 refine Ok.seqw ⟨Cat.tab [(4,vb v3)],[]⟩ ?_ ?_
 ·refine rg ?_
  obtain ⟨c14,hg64,hv3⟩:=bindS hv3
  refine Br.ite hg64 (fun hb hg64=>?_) fun hb hg64=>?_
  ·obtain ⟨x8,hx8,hg64⟩:=bindS hg64
   refine ⟨_,rfl,_,rfl,?_⟩
   refine CallOk.call (w_ref10_Same hx8) (LeL.refl _) ?_
   cases hg64
   obtain ⟨c15,hg65,hv3⟩:=bindS hv3
   refine Br.ite hg65 (fun hb hg65=>?_) fun hb hg65=>?_
   ·obtain ⟨x9,hx9,hg65⟩:=bindS hg65
    refine ⟨_,rfl,?_⟩
    refine CallOk.call (w_ref10_Below hx9) (LeL.refl _) ?_
    obtain ⟨x10,hx10,hg65⟩:=bindS hg65
    refine CallOk.call (w_ref07_SameNodes hx10) (LeL.refl _) ?_
    cases hg65
    cases hv3
    exact wt Q1 Q0 rfl
   cases hg65
   cases hv3
   exact wt Q1 Q0 rfl
  cases hg64
  obtain ⟨c15,hg66,hv3⟩:=bindS hv3
  replace hg66:=iteF hg66
  cases hg66
  cases hv3
  exact wt Q1 Q0 rfl
 refine rt ?_
 cases h
 exact Fz.v
end Go.Proofs
