/- The walks of this seat beside the plain programs, part 5. No condition. -/
import Derived.Test.YthkdflbnmbnbaaaGreatXShotRightEn
import Derived.Test.YthkdflbnmbnbaaaGreatXShotRightWk0
import Derived.Test.YthkdflbnmbnbaaaGreatXShotRightWk1
import Derived.Test.YthkdflbnmbnbaaaGreatXShotRightWk2
import Derived.Test.YthkdflbnmbnbaaaGreatXShotRightWk3
import Derived.Test.YthkdflbnmbnbaaaGreatXShotRightWk4
namespace Go.Proofs
set_option linter.all false
open Go Go.Cat
variable [M:Mono]
set_option maxRecDepth 100000
theorem w_law10N1 {p_s} {p_a} {r} (h:law10_Done p_s p_a=some r):Pure Tryz.prog 31 [(.a [(.s (mI p_s.Now.Nodes)),(vi p_s.Now.Next),(vi p_s.Now.Cookie),(vi p_s.Tick),(.s (mB p_s.Since)),(.s (mA p_s.Pasts)),(.s (mU p_s.Taken)),(vi p_s.Next)]),(.a [(vu p_a.Do),(vu p_a.S.Kind),(vu p_a.S.A),(vu p_a.S.B),(vu p_a.S.N),(vu p_a.S.M),(.s (mD p_a.S.Data)),(vu p_a.N)])] (.t [(.a [(.s (mI r.1.Now.Nodes)),(vi r.1.Now.Next),(vi r.1.Now.Cookie),(vi r.1.Tick),(.s (mB r.1.Since)),(.s (mA r.1.Pasts)),(.s (mU r.1.Taken)),(vi r.1.Next)]),(vi r.2.1),(vi r.2.2)]):=by
 refine po Tryz.tok 60 Tryz.func31 (by kernel_rfl) rfl rfl rfl ?_
 unfold law10_Done at h
 refine wE [(0,.a [.s (mI p_s.Now.Nodes),vi p_s.Now.Next,vi p_s.Now.Cookie,vi p_s.Tick,.s (mB p_s.Since),.s (mA p_s.Pasts),.s (mU p_s.Taken),vi p_s.Next]),(1,.a [vu p_a.Do,vu p_a.S.Kind,vu p_a.S.A,vu p_a.S.B,vu p_a.S.N,vu p_a.S.M,.s (mD p_a.S.Data),vu p_a.N])] Q2 ?_
 refine sg ?_
 refine wT [(2,.b 2 0),(3,.b 3 0),(4,.b 4 0)] [(2,.box [.s (mI p_s.Now.Nodes),vi p_s.Now.Next,vi p_s.Now.Cookie,vi p_s.Tick,.s (mB p_s.Since),.s (mA p_s.Pasts),.s (mU p_s.Taken),vi p_s.Next]),(3,.box [vu p_a.Do,vu p_a.S.Kind,vu p_a.S.A,vu p_a.S.B,vu p_a.S.N,vu p_a.S.M,.s (mD p_a.S.Data),vu p_a.N]),(4,.box [.v (.slice none 0 0),vi (0),vi (0),vi (0),.v (.slice none 0 0),.v (.slice none 0 0),.v (.slice none 0 0),vi (0)])] Q3 J3 rfl ?_
 refine sq ?_
 refine sg ?_
 refine ⟨_,rfl,(by decide),_,b8_rem _ _,?_⟩
 refine wT [(2,.b 2 0),(3,.b 3 0),(4,.b 4 0),(17,vu (toU8 (Int.tmod (p_a.Do.toNat:Int) (8))))] [(2,.box [.s (mI p_s.Now.Nodes),vi p_s.Now.Next,vi p_s.Now.Cookie,vi p_s.Tick,.s (mB p_s.Since),.s (mA p_s.Pasts),.s (mU p_s.Taken),vi p_s.Next]),(3,.box [vu p_a.Do,vu p_a.S.Kind,vu p_a.S.A,vu p_a.S.B,vu p_a.S.N,vu p_a.S.M,.s (mD p_a.S.Data),vu p_a.N]),(4,.box [.v (.slice none 0 0),vi (0),vi (0),vi (0),.v (.slice none 0 0),.v (.slice none 0 0),.v (.slice none 0 0),vi (0)])] Q4 J3 rfl ?_
 refine bl ?_
 obtain ⟨v1,hv1,h⟩:=bindS h
 refine Ok.seqw ⟨Cat.tab [(2,.b 2 0),(3,.b 3 0),(4,.b 4 0),(17,vu (toU8 (Int.tmod (p_a.Do.toNat:Int) (8)))),(18,vb v1)],[(2,.box [.s (mI p_s.Now.Nodes),vi p_s.Now.Next,vi p_s.Now.Cookie,vi p_s.Tick,.s (mB p_s.Since),.s (mA p_s.Pasts),.s (mU p_s.Taken),vi p_s.Next]),(3,.box [vu p_a.Do,vu p_a.S.Kind,vu p_a.S.A,vu p_a.S.B,vu p_a.S.N,vu p_a.S.M,.s (mD p_a.S.Data),vu p_a.N]),(4,.box [.v (.slice none 0 0),vi (0),vi (0),vi (0),.v (.slice none 0 0),.v (.slice none 0 0),.v (.slice none 0 0),vi (0)])]⟩ ?_ ?_
 ·refine sg ?_
  refine wT [(2,.b 2 0),(3,.b 3 0),(4,.b 4 0),(17,vu (toU8 (Int.tmod (p_a.Do.toNat:Int) (8)))),(18,vb (((toU8 (Int.tmod (p_a.Do.toNat:Int) (8))).toNat:Int) == 5))] [(2,.box [.s (mI p_s.Now.Nodes),vi p_s.Now.Next,vi p_s.Now.Cookie,vi p_s.Tick,.s (mB p_s.Since),.s (mA p_s.Pasts),.s (mU p_s.Taken),vi p_s.Next]),(3,.box [vu p_a.Do,vu p_a.S.Kind,vu p_a.S.A,vu p_a.S.B,vu p_a.S.N,vu p_a.S.M,.s (mD p_a.S.Data),vu p_a.N]),(4,.box [.v (.slice none 0 0),vi (0),vi (0),vi (0),.v (.slice none 0 0),.v (.slice none 0 0),.v (.slice none 0 0),vi (0)])] Q5 J3 rfl ?_
  refine cn 18 (((toU8 (Int.tmod (p_a.Do.toNat:Int) (8))).toNat:Int) == 5) rfl hv1 (fun hb hv1=>?_) fun hb hv1=>?_
  ·refine sk ?_
   cases hv1
   exact wt Q5 J3 rfl
  refine rg ?_
  cases hv1
  exact wt Q5 J3 rfl
 refine cn 18 (v1) rfl h (fun hb h=>?_) fun hb h=>?_
 ·refine sq ?_
  refine Ok.chain (chain:=[(11,[0,1,2,3,4,5,6,7,8,9,10,13,14]),(12,[9,10,13,14])]) Tryz.tok Tryz.mixed (by kernel_rfl) ?_
  obtain ⟨x1,hx1,h⟩:=bindS h
  obtain ⟨x2,hx2,h⟩:=bindS h
  refine ⟨_,⟨_,rfl,rfl⟩,_,rfl,_,⟨_,rfl,rfl⟩,_,rfl,_,⟨_,rfl,rfl⟩,_,⟨_,.of_pure (w_law07N3 hx1) (LeL.refl _),rfl⟩,_,⟨_,.of_pure (w_ref10N3 hx2) (LeL.refl _),rfl⟩,_,rfl,_,rfl,_,rfl,_,rfl,_,rfl,_,rfl,⟨⟨_,rfl,_,rfl,rfl⟩,⟨_,rfl,rfl⟩,⟨_,rfl,_,rfl,rfl⟩,⟨_,rfl,rfl⟩,⟨_,rfl,_,rfl,rfl⟩,⟨_,rfl,_,.of_pure (w_law07N3 hx1) (LeL.refl _),rfl⟩,⟨_,rfl,_,.of_pure (w_ref10N3 hx2) (LeL.refl _),rfl⟩,⟨_,rfl,rfl⟩,⟨_,rfl,rfl⟩,⟨_,rfl,rfl⟩,⟨_,rfl,rfl⟩,⟨_,rfl,rfl⟩,⟨_,rfl,rfl⟩,Q0⟩,_,rfl,⟨⟨_,rfl,rfl⟩,⟨_,rfl,rfl⟩,⟨_,rfl,rfl⟩,⟨_,rfl,rfl⟩,Q0⟩,?_⟩
  refine wT [(4,.b 4 0),(7,.b 7 0),(8,vi x2.2.1),(9,vi x2.2.2)] [(4,.box [.v (.slice none 0 0),vi (0),vi (0),vi (0),.v (.slice none 0 0),.v (.slice none 0 0),.v (.slice none 0 0),vi (0)]),(7,.box [.s (mI x2.1.Now.Nodes),vi x2.1.Now.Next,vi x2.1.Now.Cookie,vi x2.1.Tick,.s (mB x2.1.Since),.s (mA x2.1.Pasts),.s (mU x2.1.Taken),vi x2.1.Next])] Q4 J2 rfl ?_
  refine sg ?_
  refine ⟨_,rfl,_,rfl,?_⟩
  refine wT [(4,.b 4 0),(5,vi x2.2.1),(6,vi x2.2.2)] [(4,.box [.s (mI x2.1.Now.Nodes),vi x2.1.Now.Next,vi x2.1.Now.Cookie,vi x2.1.Tick,.s (mB x2.1.Since),.s (mA x2.1.Pasts),.s (mU x2.1.Taken),vi x2.1.Next])] Q3 J1 rfl ?_
  refine rt ?_
  cases h
  exact ⟨_,rfl,(Fz.t (.cons (Fz.imm rfl) (.cons Fz.v (.cons Fz.v .nil))))⟩
 refine sg ?_
 refine wT [(2,.b 2 0),(3,.b 3 0),(4,.b 4 0),(35,vb (((toU8 (Int.tmod (p_a.Do.toNat:Int) (8))).toNat:Int) == 7))] [(2,.box [.s (mI p_s.Now.Nodes),vi p_s.Now.Next,vi p_s.Now.Cookie,vi p_s.Tick,.s (mB p_s.Since),.s (mA p_s.Pasts),.s (mU p_s.Taken),vi p_s.Next]),(3,.box [vu p_a.Do,vu p_a.S.Kind,vu p_a.S.A,vu p_a.S.B,vu p_a.S.N,vu p_a.S.M,.s (mD p_a.S.Data),vu p_a.N]),(4,.box [.v (.slice none 0 0),vi (0),vi (0),vi (0),.v (.slice none 0 0),.v (.slice none 0 0),.v (.slice none 0 0),vi (0)])] Q4 J3 rfl ?_
 refine cn 35 (((toU8 (Int.tmod (p_a.Do.toNat:Int) (8))).toNat:Int) == 7) rfl h (fun hb h=>?_) fun hb h=>?_
 ·refine sq ?_
  refine Ok.draw2 (m:=10) (late:=[8]) (MD:=⟨[]⟩) (CH:=⟨[]⟩) Tryz.tok Tryz.mixed (by kernel_rfl) ?_
  obtain ⟨x3,hx3,h⟩:=bindS h
  obtain ⟨x4,hx4,h⟩:=bindS h
  refine ⟨_,⟨_,rfl,rfl⟩,_,⟨_,rfl,rfl⟩,_,rfl,_,⟨_,rfl,rfl⟩,_,⟨_,.of_pure (w_law10N6 hx3) (LeL.refl _),rfl⟩,_,⟨_,.of_pure (w_ref10N1 hx4) (LeL.refl _),rfl⟩,_,rfl,_,rfl,_,rfl,Q0,?_⟩
  refine ⟨_,rfl,⟨⟨_,rfl,rfl⟩,Q0⟩,?_⟩
  refine wT [(4,.b 4 0),(10,.b 10 0),(11,vi x4.2)] [(4,.box [.v (.slice none 0 0),vi (0),vi (0),vi (0),.v (.slice none 0 0),.v (.slice none 0 0),.v (.slice none 0 0),vi (0)]),(10,.box [.s (mI x4.1.Now.Nodes),vi x4.1.Now.Next,vi x4.1.Now.Cookie,vi x4.1.Tick,.s (mB x4.1.Since),.s (mA x4.1.Pasts),.s (mU x4.1.Taken),vi x4.1.Next])] Q3 J2 rfl ?_
  refine sg ?_
  refine ⟨_,rfl,_,rfl,?_⟩
  refine wT [(4,.b 4 0),(5,vi (0)),(6,vi x4.2)] [(4,.box [.s (mI x4.1.Now.Nodes),vi x4.1.Now.Next,vi x4.1.Now.Cookie,vi x4.1.Tick,.s (mB x4.1.Since),.s (mA x4.1.Pasts),.s (mU x4.1.Taken),vi x4.1.Next])] Q3 J1 rfl ?_
  refine rt ?_
  cases h
  exact ⟨_,rfl,(Fz.t (.cons (Fz.imm rfl) (.cons Fz.v (.cons Fz.v .nil))))⟩
 refine sk ?_
 refine sg ?_
 obtain ⟨x5,hx5,h⟩:=bindS h
 refine ⟨_,rfl,_,rfl,?_⟩
 refine CallOk.call (w_law07N1 hx5) (LeL.refl _) ?_
 refine ⟨_,rfl,?_⟩
 refine wT [(2,.b 2 0),(4,.b 4 0),(12,.b 12 0)] [(2,.box [.s (mI p_s.Now.Nodes),vi p_s.Now.Next,vi p_s.Now.Cookie,vi p_s.Tick,.s (mB p_s.Since),.s (mA p_s.Pasts),.s (mU p_s.Taken),vi p_s.Next]),(4,.box [.v (.slice none 0 0),vi (0),vi (0),vi (0),.v (.slice none 0 0),.v (.slice none 0 0),.v (.slice none 0 0),vi (0)]),(12,.box [.s (mI x5.1.Nodes),vi x5.1.Next,vi x5.1.Cookie])] Q3 J3 rfl ?_
 refine sg ?_
 obtain ⟨x6,hx6,h⟩:=bindS h
 refine ⟨_,rfl,_,rfl,?_⟩
 refine CallOk.call (w_ref10_Put hx6) (LeL.refl _) ?_
 refine ⟨_,rfl,?_⟩
 refine wT [(4,.b 4 0),(5,vi (0)),(6,vi (0))] [(4,.box [.s (mI x6.Now.Nodes),vi x6.Now.Next,vi x6.Now.Cookie,vi x6.Tick,.s (mB x6.Since),.s (mA x6.Pasts),.s (mU x6.Taken),vi x6.Next])] Q3 J1 rfl ?_
 refine rt ?_
 cases h
 exact ⟨_,rfl,(Fz.t (.cons (Fz.imm rfl) (.cons Fz.v (.cons Fz.v .nil))))⟩
theorem w_law10N3 {p_l} {r} (h:law10_Made p_l=some r):Pure Tryz.prog 11 [(.s (mE p_l))] (.a [(.s (mI r.Now.Nodes)),(vi r.Now.Next),(vi r.Now.Cookie),(vi r.Tick),(.s (mB r.Since)),(.s (mA r.Pasts)),(.s (mU r.Taken)),(vi r.Next)]):=by
 refine po Tryz.tok 28 Tryz.func11 (by kernel_rfl) rfl rfl rfl ?_
 unfold law10_Made at h
 refine wE [(0,.s (mE p_l))] Q1 ?_
 refine sg ?_
 refine wT [(0,.s (mE p_l)),(2,.b 2 0)] [(2,.box [.v (.slice none 0 0),vi (0),vi (0),vi (0),.v (.slice none 0 0),.v (.slice none 0 0),.v (.slice none 0 0),vi (0)])] Q2 J1 rfl ?_
 refine sg ?_
 obtain ⟨x1,hx1,h⟩:=bindS h
 refine CallOk.call (w_ref07_New hx1) (LeL.refl _) ?_
 obtain ⟨x2,hx2,h⟩:=bindS h
 refine CallOk.call (w_ref10_New hx2) (LeL.refl _) ?_
 refine ⟨_,rfl,?_⟩
 refine wT [(0,.s (mE p_l)),(2,.b 2 0),(3,.b 3 0)] [(2,.box [.v (.slice none 0 0),vi (0),vi (0),vi (0),.v (.slice none 0 0),.v (.slice none 0 0),.v (.slice none 0 0),vi (0)]),(3,.box [.s (mI x2.Now.Nodes),vi x2.Now.Next,vi x2.Now.Cookie,vi x2.Tick,.s (mB x2.Since),.s (mA x2.Pasts),.s (mU x2.Taken),vi x2.Next])] Q3 J2 rfl ?_
 obtain ⟨v1,hv1,h⟩:=bindS h
 refine Ok.seqw ⟨Cat.tab [(2,.b 2 0),(3,.b 3 0)],[(2,.box [.v (.slice none 0 0),vi (0),vi (0),vi (0),.v (.slice none 0 0),.v (.slice none 0 0),.v (.slice none 0 0),vi (0)]),(3,.box [.s (mI v1.1),vi v1.2.1,vi v1.2.2.1,vi v1.2.2.2.1,.s (mB v1.2.2.2.2.1),.s (mA v1.2.2.2.2.2.1),.s (mU v1.2.2.2.2.2.2.1),vi v1.2.2.2.2.2.2.2])]⟩ ?_ ?_
 ·refine sg ?_
  refine wT [(0,.s (mE p_l)),(2,.b 2 0),(3,.b 3 0),(4,vi (0))] [(2,.box [.v (.slice none 0 0),vi (0),vi (0),vi (0),.v (.slice none 0 0),.v (.slice none 0 0),.v (.slice none 0 0),vi (0)]),(3,.box [.s (mI x2.Now.Nodes),vi x2.Now.Next,vi x2.Now.Cookie,vi x2.Tick,.s (mB x2.Since),.s (mA x2.Pasts),.s (mU x2.Taken),vi x2.Next])] Q4 J2 rfl ?_
  refine bl ?_
  refine Ok.loop (fun (s1:Int×(List api_Node)×Int×Int×Int×(List Int)×(List api_Past)×(List api_Shot)×Int)=>⟨Cat.tab [(0,.s (mE p_l)),(2,.b 2 0),(3,.b 3 0),(4,vi s1.1)],[(2,.box [.v (.slice none 0 0),vi (0),vi (0),vi (0),.v (.slice none 0 0),.v (.slice none 0 0),.v (.slice none 0 0),vi (0)]),(3,.box [.s (mI s1.2.1),vi s1.2.2.1,vi s1.2.2.2.1,vi s1.2.2.2.2.1,.s (mB s1.2.2.2.2.2.1),.s (mA s1.2.2.2.2.2.2.1),.s (mU s1.2.2.2.2.2.2.2.1),vi s1.2.2.2.2.2.2.2.2])]⟩) (law10N4 p_l) (s0:=(0,x2.Now.Nodes,x2.Now.Next,x2.Now.Cookie,x2.Tick,x2.Since,x2.Pasts,x2.Taken,x2.Next)) hv1 (wt Q4 ⟨⟨_,rfl,.refl _⟩,⟨_,rfl,.refl _⟩,Q0⟩ rfl) ?_
  intro s1 y1 hB1 hy1
  unfold law10N4 at hB1
  refine sq ?_
  refine sg ?_
  refine ⟨_,List.length_map _,fun _=>?_⟩
  refine wT [(0,.s (mE p_l)),(2,.b 2 0),(3,.b 3 0),(4,vi s1.1),(13,vb (decide (s1.1 < (p_l.length:Int))))] [(2,.box [.v (.slice none 0 0),vi (0),vi (0),vi (0),.v (.slice none 0 0),.v (.slice none 0 0),.v (.slice none 0 0),vi (0)]),(3,.box [.s (mI s1.2.1),vi s1.2.2.1,vi s1.2.2.2.1,vi s1.2.2.2.2.1,.s (mB s1.2.2.2.2.2.1),.s (mA s1.2.2.2.2.2.2.1),.s (mU s1.2.2.2.2.2.2.2.1),vi s1.2.2.2.2.2.2.2.2])] Q5 J2 rfl ?_
  refine cn 13 (decide (s1.1 < (p_l.length:Int))) rfl hB1 (fun hb hB1=>?_) fun hb hB1=>?_
  ·refine sk ?_
   refine sq ?_
   refine bl ?_
   refine sq ?_
   refine Ok.chain (chain:=[(10,[0,1,2,3,4,5,6,7,8,9,12,13]),(11,[8,9,12,13])]) Tryz.tok Tryz.mixed (by kernel_rfl) ?_
   obtain ⟨x3,hx3,hB1⟩:=bindS hB1
   obtain ⟨x4,hx4,hB1⟩:=bindS hB1
   refine ⟨_,⟨_,rfl,rfl⟩,_,rfl,_,rfl,_,⟨_,idx_nat hx3,_,idx_row hx3,rfl⟩,_,⟨_,rfl,rfl⟩,_,⟨_,.of_pure (w_law10N1 hx4) (LeL.refl _),rfl⟩,_,rfl,_,rfl,_,rfl,_,rfl,_,rfl,_,rfl,⟨⟨_,rfl,_,rfl,rfl⟩,⟨_,rfl,rfl⟩,⟨_,rfl,rfl⟩,⟨_,rfl,_,idx_nat hx3,_,idx_row hx3,rfl⟩,⟨_,rfl,_,rfl,rfl⟩,⟨_,rfl,_,.of_pure (w_law10N1 hx4) (LeL.refl _),rfl⟩,⟨_,rfl,rfl⟩,⟨_,rfl,rfl⟩,⟨_,rfl,rfl⟩,⟨_,rfl,rfl⟩,⟨_,rfl,rfl⟩,⟨_,rfl,rfl⟩,Q0⟩,_,rfl,⟨⟨_,rfl,rfl⟩,⟨_,rfl,rfl⟩,⟨_,rfl,rfl⟩,⟨_,rfl,rfl⟩,Q0⟩,?_⟩
   refine wT [(0,.s (mE p_l)),(2,.b 2 0),(3,.b 3 0),(4,vi s1.1),(5,.b 5 0)] [(2,.box [.v (.slice none 0 0),vi (0),vi (0),vi (0),.v (.slice none 0 0),.v (.slice none 0 0),.v (.slice none 0 0),vi (0)]),(3,.box [.s (mI s1.2.1),vi s1.2.2.1,vi s1.2.2.2.1,vi s1.2.2.2.2.1,.s (mB s1.2.2.2.2.2.1),.s (mA s1.2.2.2.2.2.2.1),.s (mU s1.2.2.2.2.2.2.2.1),vi s1.2.2.2.2.2.2.2.2]),(5,.box [.s (mI x4.1.Now.Nodes),vi x4.1.Now.Next,vi x4.1.Now.Cookie,vi x4.1.Tick,.s (mB x4.1.Since),.s (mA x4.1.Pasts),.s (mU x4.1.Taken),vi x4.1.Next])] Q5 J3 rfl ?_
   refine rg ?_
   refine ⟨_,rfl,_,rfl,?_⟩
   refine wT [(0,.s (mE p_l)),(2,.b 2 0),(3,.b 3 0),(4,vi s1.1)] [(2,.box [.v (.slice none 0 0),vi (0),vi (0),vi (0),.v (.slice none 0 0),.v (.slice none 0 0),.v (.slice none 0 0),vi (0)]),(3,.box [.s (mI x4.1.Now.Nodes),vi x4.1.Now.Next,vi x4.1.Now.Cookie,vi x4.1.Tick,.s (mB x4.1.Since),.s (mA x4.1.Pasts),.s (mU x4.1.Taken),vi x4.1.Next])] Q4 J2 rfl ?_
   refine rg ?_
   obtain ⟨hc1,hB1⟩:=chk_some hB1
   refine (Or.inl ⟨hc1,?_⟩)
   exact ⟨_,sj hB1,wt Q4 J2 rfl⟩
  refine xt ?_
  have hB1:=out_ret hB1 hy1
  cases hB1
  exact wt Q2 J2 rfl
 refine sg ?_
 refine ⟨_,rfl,_,rfl,?_⟩
 refine wT [(2,.b 2 0)] [(2,.box [.s (mI v1.1),vi v1.2.1,vi v1.2.2.1,vi v1.2.2.2.1,.s (mB v1.2.2.2.2.1),.s (mA v1.2.2.2.2.2.1),.s (mU v1.2.2.2.2.2.2.1),vi v1.2.2.2.2.2.2.2])] Q1 J1 rfl ?_
 refine rt ?_
 cases h
 exact ⟨_,rfl,(Fz.imm rfl)⟩
theorem w_law10_own {p_s} {p_a} {r} (h:law10_own p_s p_a=some r):Pure Tryz.prog 12 [(.a [(.s (mI p_s.Now.Nodes)),(vi p_s.Now.Next),(vi p_s.Now.Cookie),(vi p_s.Tick),(.s (mB p_s.Since)),(.s (mA p_s.Pasts)),(.s (mU p_s.Taken)),(vi p_s.Next)]),(.a [(vu p_a.Do),(vu p_a.S.Kind),(vu p_a.S.A),(vu p_a.S.B),(vu p_a.S.N),(vu p_a.S.M),(.s (mD p_a.S.Data)),(vu p_a.N)])] (.t [(.a [(.s (mI r.1.Now.Nodes)),(vi r.1.Now.Next),(vi r.1.Now.Cookie),(vi r.1.Tick),(.s (mB r.1.Since)),(.s (mA r.1.Pasts)),(.s (mU r.1.Taken)),(vi r.1.Next)]),(vi r.2.1),(vi r.2.2)]):=by
 refine po Tryz.tok 60 Tryz.func12 (by kernel_rfl) rfl rfl rfl ?_
 unfold law10_own at h
 refine wE [(0,.a [.s (mI p_s.Now.Nodes),vi p_s.Now.Next,vi p_s.Now.Cookie,vi p_s.Tick,.s (mB p_s.Since),.s (mA p_s.Pasts),.s (mU p_s.Taken),vi p_s.Next]),(1,.a [vu p_a.Do,vu p_a.S.Kind,vu p_a.S.A,vu p_a.S.B,vu p_a.S.N,vu p_a.S.M,.s (mD p_a.S.Data),vu p_a.N])] Q2 ?_
 refine sg ?_
 refine wT [(2,.b 2 0),(3,.b 3 0),(4,.b 4 0)] [(2,.box [.s (mI p_s.Now.Nodes),vi p_s.Now.Next,vi p_s.Now.Cookie,vi p_s.Tick,.s (mB p_s.Since),.s (mA p_s.Pasts),.s (mU p_s.Taken),vi p_s.Next]),(3,.box [vu p_a.Do,vu p_a.S.Kind,vu p_a.S.A,vu p_a.S.B,vu p_a.S.N,vu p_a.S.M,.s (mD p_a.S.Data),vu p_a.N]),(4,.box [.v (.slice none 0 0),vi (0),vi (0),vi (0),.v (.slice none 0 0),.v (.slice none 0 0),.v (.slice none 0 0),vi (0)])] Q3 J3 rfl ?_
 refine sq ?_
 refine sg ?_
 refine ⟨_,rfl,(by decide),_,b8_rem _ _,?_⟩
 refine wT [(2,.b 2 0),(3,.b 3 0),(4,.b 4 0),(17,vu (toU8 (Int.tmod (p_a.Do.toNat:Int) (8))))] [(2,.box [.s (mI p_s.Now.Nodes),vi p_s.Now.Next,vi p_s.Now.Cookie,vi p_s.Tick,.s (mB p_s.Since),.s (mA p_s.Pasts),.s (mU p_s.Taken),vi p_s.Next]),(3,.box [vu p_a.Do,vu p_a.S.Kind,vu p_a.S.A,vu p_a.S.B,vu p_a.S.N,vu p_a.S.M,.s (mD p_a.S.Data),vu p_a.N]),(4,.box [.v (.slice none 0 0),vi (0),vi (0),vi (0),.v (.slice none 0 0),.v (.slice none 0 0),.v (.slice none 0 0),vi (0)])] Q4 J3 rfl ?_
 refine bl ?_
 obtain ⟨v1,hv1,h⟩:=bindS h
 refine Ok.seqw ⟨Cat.tab [(2,.b 2 0),(3,.b 3 0),(4,.b 4 0),(17,vu (toU8 (Int.tmod (p_a.Do.toNat:Int) (8)))),(18,vb v1)],[(2,.box [.s (mI p_s.Now.Nodes),vi p_s.Now.Next,vi p_s.Now.Cookie,vi p_s.Tick,.s (mB p_s.Since),.s (mA p_s.Pasts),.s (mU p_s.Taken),vi p_s.Next]),(3,.box [vu p_a.Do,vu p_a.S.Kind,vu p_a.S.A,vu p_a.S.B,vu p_a.S.N,vu p_a.S.M,.s (mD p_a.S.Data),vu p_a.N]),(4,.box [.v (.slice none 0 0),vi (0),vi (0),vi (0),.v (.slice none 0 0),.v (.slice none 0 0),.v (.slice none 0 0),vi (0)])]⟩ ?_ ?_
 ·refine sg ?_
  refine wT [(2,.b 2 0),(3,.b 3 0),(4,.b 4 0),(17,vu (toU8 (Int.tmod (p_a.Do.toNat:Int) (8)))),(18,vb (((toU8 (Int.tmod (p_a.Do.toNat:Int) (8))).toNat:Int) == 5))] [(2,.box [.s (mI p_s.Now.Nodes),vi p_s.Now.Next,vi p_s.Now.Cookie,vi p_s.Tick,.s (mB p_s.Since),.s (mA p_s.Pasts),.s (mU p_s.Taken),vi p_s.Next]),(3,.box [vu p_a.Do,vu p_a.S.Kind,vu p_a.S.A,vu p_a.S.B,vu p_a.S.N,vu p_a.S.M,.s (mD p_a.S.Data),vu p_a.N]),(4,.box [.v (.slice none 0 0),vi (0),vi (0),vi (0),.v (.slice none 0 0),.v (.slice none 0 0),.v (.slice none 0 0),vi (0)])] Q5 J3 rfl ?_
  refine cn 18 (((toU8 (Int.tmod (p_a.Do.toNat:Int) (8))).toNat:Int) == 5) rfl hv1 (fun hb hv1=>?_) fun hb hv1=>?_
  ·refine sk ?_
   cases hv1
   exact wt Q5 J3 rfl
  refine rg ?_
  cases hv1
  exact wt Q5 J3 rfl
 refine cn 18 (v1) rfl h (fun hb h=>?_) fun hb h=>?_
 ·refine sq ?_
  refine Ok.chain (chain:=[(11,[0,1,2,3,4,5,6,7,8,9,10,13,14]),(12,[9,10,13,14])]) Tryz.tok Tryz.mixed (by kernel_rfl) ?_
  obtain ⟨x1,hx1,h⟩:=bindS h
  obtain ⟨x2,hx2,h⟩:=bindS h
  refine ⟨_,⟨_,rfl,rfl⟩,_,rfl,_,⟨_,rfl,rfl⟩,_,rfl,_,⟨_,rfl,rfl⟩,_,⟨_,.of_pure (w_law07N3 hx1) (LeL.refl _),rfl⟩,_,⟨_,.of_pure (w_shot_Take hx2) (LeL.refl _),rfl⟩,_,rfl,_,rfl,_,rfl,_,rfl,_,rfl,_,rfl,⟨⟨_,rfl,_,rfl,rfl⟩,⟨_,rfl,rfl⟩,⟨_,rfl,_,rfl,rfl⟩,⟨_,rfl,rfl⟩,⟨_,rfl,_,rfl,rfl⟩,⟨_,rfl,_,.of_pure (w_law07N3 hx1) (LeL.refl _),rfl⟩,⟨_,rfl,_,.of_pure (w_shot_Take hx2) (LeL.refl _),rfl⟩,⟨_,rfl,rfl⟩,⟨_,rfl,rfl⟩,⟨_,rfl,rfl⟩,⟨_,rfl,rfl⟩,⟨_,rfl,rfl⟩,⟨_,rfl,rfl⟩,Q0⟩,_,rfl,⟨⟨_,rfl,rfl⟩,⟨_,rfl,rfl⟩,⟨_,rfl,rfl⟩,⟨_,rfl,rfl⟩,Q0⟩,?_⟩
  refine wT [(4,.b 4 0),(7,.b 7 0),(8,vi x2.2.1),(9,vi x2.2.2)] [(4,.box [.v (.slice none 0 0),vi (0),vi (0),vi (0),.v (.slice none 0 0),.v (.slice none 0 0),.v (.slice none 0 0),vi (0)]),(7,.box [.s (mI x2.1.Now.Nodes),vi x2.1.Now.Next,vi x2.1.Now.Cookie,vi x2.1.Tick,.s (mB x2.1.Since),.s (mA x2.1.Pasts),.s (mU x2.1.Taken),vi x2.1.Next])] Q4 J2 rfl ?_
  refine sg ?_
  refine ⟨_,rfl,_,rfl,?_⟩
  refine wT [(4,.b 4 0),(5,vi x2.2.1),(6,vi x2.2.2)] [(4,.box [.s (mI x2.1.Now.Nodes),vi x2.1.Now.Next,vi x2.1.Now.Cookie,vi x2.1.Tick,.s (mB x2.1.Since),.s (mA x2.1.Pasts),.s (mU x2.1.Taken),vi x2.1.Next])] Q3 J1 rfl ?_
  refine rt ?_
  cases h
  exact ⟨_,rfl,(Fz.t (.cons (Fz.imm rfl) (.cons Fz.v (.cons Fz.v .nil))))⟩
 refine sg ?_
 refine wT [(2,.b 2 0),(3,.b 3 0),(4,.b 4 0),(35,vb (((toU8 (Int.tmod (p_a.Do.toNat:Int) (8))).toNat:Int) == 7))] [(2,.box [.s (mI p_s.Now.Nodes),vi p_s.Now.Next,vi p_s.Now.Cookie,vi p_s.Tick,.s (mB p_s.Since),.s (mA p_s.Pasts),.s (mU p_s.Taken),vi p_s.Next]),(3,.box [vu p_a.Do,vu p_a.S.Kind,vu p_a.S.A,vu p_a.S.B,vu p_a.S.N,vu p_a.S.M,.s (mD p_a.S.Data),vu p_a.N]),(4,.box [.v (.slice none 0 0),vi (0),vi (0),vi (0),.v (.slice none 0 0),.v (.slice none 0 0),.v (.slice none 0 0),vi (0)])] Q4 J3 rfl ?_
 refine cn 35 (((toU8 (Int.tmod (p_a.Do.toNat:Int) (8))).toNat:Int) == 7) rfl h (fun hb h=>?_) fun hb h=>?_
 ·refine sq ?_
  refine Ok.draw2 (m:=10) (late:=[8]) (MD:=⟨[]⟩) (CH:=⟨[]⟩) Tryz.tok Tryz.mixed (by kernel_rfl) ?_
  obtain ⟨x3,hx3,h⟩:=bindS h
  obtain ⟨x4,hx4,h⟩:=bindS h
  refine ⟨_,⟨_,rfl,rfl⟩,_,⟨_,rfl,rfl⟩,_,rfl,_,⟨_,rfl,rfl⟩,_,⟨_,.of_pure (w_law10N6 hx3) (LeL.refl _),rfl⟩,_,⟨_,.of_pure (w_shot_Drop hx4) (LeL.refl _),rfl⟩,_,rfl,_,rfl,_,rfl,Q0,?_⟩
  refine ⟨_,rfl,⟨⟨_,rfl,rfl⟩,Q0⟩,?_⟩
  refine wT [(4,.b 4 0),(10,.b 10 0),(11,vi x4.2)] [(4,.box [.v (.slice none 0 0),vi (0),vi (0),vi (0),.v (.slice none 0 0),.v (.slice none 0 0),.v (.slice none 0 0),vi (0)]),(10,.box [.s (mI x4.1.Now.Nodes),vi x4.1.Now.Next,vi x4.1.Now.Cookie,vi x4.1.Tick,.s (mB x4.1.Since),.s (mA x4.1.Pasts),.s (mU x4.1.Taken),vi x4.1.Next])] Q3 J2 rfl ?_
  refine sg ?_
  refine ⟨_,rfl,_,rfl,?_⟩
  refine wT [(4,.b 4 0),(5,vi (0)),(6,vi x4.2)] [(4,.box [.s (mI x4.1.Now.Nodes),vi x4.1.Now.Next,vi x4.1.Now.Cookie,vi x4.1.Tick,.s (mB x4.1.Since),.s (mA x4.1.Pasts),.s (mU x4.1.Taken),vi x4.1.Next])] Q3 J1 rfl ?_
  refine rt ?_
  cases h
  exact ⟨_,rfl,(Fz.t (.cons (Fz.imm rfl) (.cons Fz.v (.cons Fz.v .nil))))⟩
 refine sk ?_
 refine sg ?_
 obtain ⟨x5,hx5,h⟩:=bindS h
 refine ⟨_,rfl,_,rfl,?_⟩
 refine CallOk.call (w_law07N1 hx5) (LeL.refl _) ?_
 refine ⟨_,rfl,?_⟩
 refine wT [(2,.b 2 0),(4,.b 4 0),(12,.b 12 0)] [(2,.box [.s (mI p_s.Now.Nodes),vi p_s.Now.Next,vi p_s.Now.Cookie,vi p_s.Tick,.s (mB p_s.Since),.s (mA p_s.Pasts),.s (mU p_s.Taken),vi p_s.Next]),(4,.box [.v (.slice none 0 0),vi (0),vi (0),vi (0),.v (.slice none 0 0),.v (.slice none 0 0),.v (.slice none 0 0),vi (0)]),(12,.box [.s (mI x5.1.Nodes),vi x5.1.Next,vi x5.1.Cookie])] Q3 J3 rfl ?_
 refine sg ?_
 obtain ⟨x6,hx6,h⟩:=bindS h
 refine ⟨_,rfl,_,rfl,?_⟩
 refine CallOk.call (w_shot_Put hx6) (LeL.refl _) ?_
 refine ⟨_,rfl,?_⟩
 refine wT [(4,.b 4 0),(5,vi (0)),(6,vi (0))] [(4,.box [.s (mI x6.Now.Nodes),vi x6.Now.Next,vi x6.Now.Cookie,vi x6.Tick,.s (mB x6.Since),.s (mA x6.Pasts),.s (mU x6.Taken),vi x6.Next])] Q3 J1 rfl ?_
 refine rt ?_
 cases h
 exact ⟨_,rfl,(Fz.t (.cons (Fz.imm rfl) (.cons Fz.v (.cons Fz.v .nil))))⟩
set_option maxHeartbeats 4000000 in
theorem w_ref10N2 {p_a} {p_b} {r} (h:ref10_Same p_a p_b=some r):Pure Tryz.prog 13 [(.a [(.s (mI p_a.Now.Nodes)),(vi p_a.Now.Next),(vi p_a.Now.Cookie),(vi p_a.Tick),(.s (mB p_a.Since)),(.s (mA p_a.Pasts)),(.s (mU p_a.Taken)),(vi p_a.Next)]),(.a [(.s (mI p_b.Now.Nodes)),(vi p_b.Now.Next),(vi p_b.Now.Cookie),(vi p_b.Tick),(.s (mB p_b.Since)),(.s (mA p_b.Pasts)),(.s (mU p_b.Taken)),(vi p_b.Next)])] (vb r):=by
 refine po Tryz.tok 130 Tryz.func13 (by kernel_rfl) rfl rfl rfl ?_
 unfold ref10_Same at h
 refine wE [(0,.a [.s (mI p_a.Now.Nodes),vi p_a.Now.Next,vi p_a.Now.Cookie,vi p_a.Tick,.s (mB p_a.Since),.s (mA p_a.Pasts),.s (mU p_a.Taken),vi p_a.Next]),(1,.a [.s (mI p_b.Now.Nodes),vi p_b.Now.Next,vi p_b.Now.Cookie,vi p_b.Tick,.s (mB p_b.Since),.s (mA p_b.Pasts),.s (mU p_b.Taken),vi p_b.Next])] Q2 ?_
 refine sg ?_
 refine wT [(2,.b 2 0),(3,.b 3 0)] [(2,.box [.s (mI p_a.Now.Nodes),vi p_a.Now.Next,vi p_a.Now.Cookie,vi p_a.Tick,.s (mB p_a.Since),.s (mA p_a.Pasts),.s (mU p_a.Taken),vi p_a.Next]),(3,.box [.s (mI p_b.Now.Nodes),vi p_b.Now.Next,vi p_b.Now.Cookie,vi p_b.Tick,.s (mB p_b.Since),.s (mA p_b.Pasts),.s (mU p_b.Taken),vi p_b.Next])] Q2 J2 rfl ?_
 refine sq ?_
 obtain ⟨v1,hv1,h⟩:=bindS h
 refine Ok.seqw ⟨Cat.tab [(2,.b 2 0),(3,.b 3 0),(56,vb v1)],[(2,.box [.s (mI p_a.Now.Nodes),vi p_a.Now.Next,vi p_a.Now.Cookie,vi p_a.Tick,.s (mB p_a.Since),.s (mA p_a.Pasts),.s (mU p_a.Taken),vi p_a.Next]),(3,.box [.s (mI p_b.Now.Nodes),vi p_b.Now.Next,vi p_b.Now.Cookie,vi p_b.Tick,.s (mB p_b.Since),.s (mA p_b.Pasts),.s (mU p_b.Taken),vi p_b.Next])]⟩ ?_ ?_
 ·refine rg ?_
  obtain ⟨x1,hx1,hv1⟩:=bindS hv1
  refine ⟨_,rfl,_,rfl,?_⟩
  refine CallOk.call (w_ref07N4 hx1) (LeL.refl _) ?_
  obtain ⟨c1,hg1,hv1⟩:=bindS hv1
  refine Br.itf hg1 (fun hb hg1=>?_) fun hb hg1=>?_
  ·cases hg1
   obtain ⟨c2,hg2,hv1⟩:=bindS hv1
   replace hg2:=iteT hg2
   cases hg2
   obtain ⟨c3,hg3,hv1⟩:=bindS hv1
   replace hg3:=iteT hg3
   cases hg3
   obtain ⟨c4,hg4,hv1⟩:=bindS hv1
   replace hg4:=iteT hg4
   cases hg4
   obtain ⟨c5,hg5,hv1⟩:=bindS hv1
   replace hg5:=iteT hg5
   cases hg5
   cases hv1
   exact wt Q3 J2 rfl
  refine ⟨_,rfl,_,rfl,?_⟩
  cases hg1
  obtain ⟨c2,hg6,hv1⟩:=bindS hv1
  refine Br.itf hg6 (fun hb hg6=>?_) fun hb hg6=>?_
  ·cases hg6
   obtain ⟨c3,hg7,hv1⟩:=bindS hv1
   replace hg7:=iteT hg7
   cases hg7
   obtain ⟨c4,hg8,hv1⟩:=bindS hv1
   replace hg8:=iteT hg8
   cases hg8
   obtain ⟨c5,hg9,hv1⟩:=bindS hv1
   replace hg9:=iteT hg9
   cases hg9
   cases hv1
   exact wt Q3 J2 rfl
  refine ⟨_,rfl,_,rfl,?_⟩
  cases hg6
  obtain ⟨c3,hg10,hv1⟩:=bindS hv1
  refine Br.itf hg10 (fun hb hg10=>?_) fun hb hg10=>?_
  ·cases hg10
   obtain ⟨c4,hg11,hv1⟩:=bindS hv1
   replace hg11:=iteT hg11
   cases hg11
   obtain ⟨c5,hg12,hv1⟩:=bindS hv1
   replace hg12:=iteT hg12
   cases hg12
   cases hv1
   exact wt Q3 J2 rfl
  refine ⟨_,rfl,_,List.length_map _,fun _=>⟨_,rfl,_,List.length_map _,fun _=>?_⟩⟩
  cases hg10
  obtain ⟨c4,hg13,hv1⟩:=bindS hv1
  refine Br.itf hg13 (fun hb hg13=>?_) fun hb hg13=>?_
  ·cases hg13
   obtain ⟨c5,hg14,hv1⟩:=bindS hv1
   replace hg14:=iteT hg14
   cases hg14
   cases hv1
   exact wt Q3 J2 rfl
  refine ⟨_,rfl,_,List.length_map _,fun _=>⟨_,rfl,_,List.length_map _,fun _=>?_⟩⟩
  cases hg13
  obtain ⟨c5,hg15,hv1⟩:=bindS hv1
  refine Br.itf hg15 (fun hb hg15=>?_) fun hb hg15=>?_
  ·cases hg15
   cases hv1
   exact wt Q3 J2 rfl
  refine ⟨_,rfl,_,List.length_map _,fun _=>⟨_,rfl,_,List.length_map _,fun _=>?_⟩⟩
  cases hg15
  cases hv1
  exact wt Q3 J2 rfl
 refine cn 56 (v1) rfl h (fun hb h=>?_) fun hb h=>?_
 ·refine sg ?_
  refine wE [(4,vb false)] Q1 ?_
  refine rt ?_
  cases h
  exact Fz.v
 refine sk ?_
 refine Ok.seqj (fun v2=>⟨Cat.tab [(2,.b 2 0),(3,.b 3 0)],[(2,.box [.s (mI p_a.Now.Nodes),vi p_a.Now.Next,vi p_a.Now.Cookie,vi p_a.Tick,.s (mB p_a.Since),.s (mA p_a.Pasts),.s (mU p_a.Taken),vi p_a.Next]),(3,.box [.s (mI p_b.Now.Nodes),vi p_b.Now.Next,vi p_b.Now.Cookie,vi p_b.Tick,.s (mB p_b.Since),.s (mA p_b.Pasts),.s (mU p_b.Taken),vi p_b.Next])]⟩) (fun v2=>ref10N14 p_a p_b v2=some r) ?_ ?_
 ·refine sg ?_
  refine wT [(2,.b 2 0),(3,.b 3 0),(5,vi (0))] [(2,.box [.s (mI p_a.Now.Nodes),vi p_a.Now.Next,vi p_a.Now.Cookie,vi p_a.Tick,.s (mB p_a.Since),.s (mA p_a.Pasts),.s (mU p_a.Taken),vi p_a.Next]),(3,.box [.s (mI p_b.Now.Nodes),vi p_b.Now.Next,vi p_b.Now.Cookie,vi p_b.Tick,.s (mB p_b.Since),.s (mA p_b.Pasts),.s (mU p_b.Taken),vi p_b.Next])] Q3 J2 rfl ?_
  refine bl ?_
  refine Ok.loop (fun (s1:Int)=>⟨Cat.tab [(2,.b 2 0),(3,.b 3 0),(5,vi s1)],[(2,.box [.s (mI p_a.Now.Nodes),vi p_a.Now.Next,vi p_a.Now.Cookie,vi p_a.Tick,.s (mB p_a.Since),.s (mA p_a.Pasts),.s (mU p_a.Taken),vi p_a.Next]),(3,.box [.s (mI p_b.Now.Nodes),vi p_b.Now.Next,vi p_b.Now.Cookie,vi p_b.Tick,.s (mB p_b.Since),.s (mA p_b.Pasts),.s (mU p_b.Taken),vi p_b.Next])]⟩) (ref10N11 p_a p_b) (s0:=0) h (wt Q3 ⟨⟨_,rfl,.refl _⟩,⟨_,rfl,.refl _⟩,Q0⟩ rfl) ?_
  intro s1 y1 hB1 hy1
  unfold ref10N11 at hB1
  refine sq ?_
  refine sg ?_
  refine ⟨_,rfl,_,List.length_map _,fun _=>?_⟩
  refine wT [(2,.b 2 0),(3,.b 3 0),(5,vi s1),(61,vb (decide (s1 < (p_a.Since.length:Int))))] [(2,.box [.s (mI p_a.Now.Nodes),vi p_a.Now.Next,vi p_a.Now.Cookie,vi p_a.Tick,.s (mB p_a.Since),.s (mA p_a.Pasts),.s (mU p_a.Taken),vi p_a.Next]),(3,.box [.s (mI p_b.Now.Nodes),vi p_b.Now.Next,vi p_b.Now.Cookie,vi p_b.Tick,.s (mB p_b.Since),.s (mA p_b.Pasts),.s (mU p_b.Taken),vi p_b.Next])] Q4 J2 rfl ?_
  refine cn 61 (decide (s1 < (p_a.Since.length:Int))) rfl hB1 (fun hb hB1=>?_) fun hb hB1=>?_
  ·refine sk ?_
   refine sq ?_
   refine bl ?_
   refine sq ?_
   refine Ok.draw (m:=11) (MD:=⟨[]⟩) (CH:=⟨[]⟩) Tryz.tok Tryz.mixed (by kernel_rfl) ?_
   obtain ⟨x2,hx2,hB1⟩:=bindS hB1
   obtain ⟨x3,hx3,hB1⟩:=bindS hB1
   refine ⟨_,rfl,_,⟨_,rfl,rfl⟩,_,rfl,_,⟨_,idx_nat hx2,_,idx_row hx2,rfl⟩,_,⟨_,rfl,rfl⟩,_,rfl,_,⟨_,rfl,rfl⟩,_,rfl,_,⟨_,idx_nat hx3,_,idx_row hx3,rfl⟩,_,⟨_,rfl,rfl⟩,_,rfl,Q0,?_⟩
   refine wT [(2,.b 2 0),(3,.b 3 0),(5,vi s1),(74,vb (x2 != x3))] [(2,.box [.s (mI p_a.Now.Nodes),vi p_a.Now.Next,vi p_a.Now.Cookie,vi p_a.Tick,.s (mB p_a.Since),.s (mA p_a.Pasts),.s (mU p_a.Taken),vi p_a.Next]),(3,.box [.s (mI p_b.Now.Nodes),vi p_b.Now.Next,vi p_b.Now.Cookie,vi p_b.Tick,.s (mB p_b.Since),.s (mA p_b.Pasts),.s (mU p_b.Taken),vi p_b.Next])] Q4 J2 rfl ?_
   refine cn 74 (x2 != x3) rfl hB1 (fun hb hB1=>?_) fun hb hB1=>?_
   ·refine sg ?_
    refine wE [(4,vb false)] Q1 ?_
    refine rt ?_
    have hB1:=out_ret hB1 hy1
    cases hB1
    exact Fz.v
   refine sk ?_
   refine rg ?_
   obtain ⟨hc1,hB1⟩:=chk_some hB1
   refine (Or.inl ⟨hc1,?_⟩)
   exact ⟨_,sj hB1,wt Q3 J2 rfl⟩
  refine xt ?_
  have hB1:=out_ret hB1 hy1
  exact ⟨_,hB1,wt Q2 ⟨⟨_,rfl,.refl _⟩,⟨_,rfl,.refl _⟩,Q0⟩ rfl⟩
 intro v2 h
 unfold ref10N14 at h
 refine Ok.seqj (fun v3=>⟨Cat.tab [(2,.b 2 0),(3,.b 3 0)],[(2,.box [.s (mI p_a.Now.Nodes),vi p_a.Now.Next,vi p_a.Now.Cookie,vi p_a.Tick,.s (mB p_a.Since),.s (mA p_a.Pasts),.s (mU p_a.Taken),vi p_a.Next]),(3,.box [.s (mI p_b.Now.Nodes),vi p_b.Now.Next,vi p_b.Now.Cookie,vi p_b.Tick,.s (mB p_b.Since),.s (mA p_b.Pasts),.s (mU p_b.Taken),vi p_b.Next])]⟩) (fun v3=>ref10N15 p_a p_b v3=some r) ?_ ?_
 ·refine sg ?_
  refine wT [(2,.b 2 0),(3,.b 3 0),(6,vi (0))] [(2,.box [.s (mI p_a.Now.Nodes),vi p_a.Now.Next,vi p_a.Now.Cookie,vi p_a.Tick,.s (mB p_a.Since),.s (mA p_a.Pasts),.s (mU p_a.Taken),vi p_a.Next]),(3,.box [.s (mI p_b.Now.Nodes),vi p_b.Now.Next,vi p_b.Now.Cookie,vi p_b.Tick,.s (mB p_b.Since),.s (mA p_b.Pasts),.s (mU p_b.Taken),vi p_b.Next])] Q3 J2 rfl ?_
  refine bl ?_
  refine Ok.loop (fun (s2:Int)=>⟨Cat.tab [(2,.b 2 0),(3,.b 3 0),(6,vi s2)],[(2,.box [.s (mI p_a.Now.Nodes),vi p_a.Now.Next,vi p_a.Now.Cookie,vi p_a.Tick,.s (mB p_a.Since),.s (mA p_a.Pasts),.s (mU p_a.Taken),vi p_a.Next]),(3,.box [.s (mI p_b.Now.Nodes),vi p_b.Now.Next,vi p_b.Now.Cookie,vi p_b.Tick,.s (mB p_b.Since),.s (mA p_b.Pasts),.s (mU p_b.Taken),vi p_b.Next])]⟩) (ref10N12 p_a p_b) (s0:=0) h (wt Q3 ⟨⟨_,rfl,.refl _⟩,⟨_,rfl,.refl _⟩,Q0⟩ rfl) ?_
  intro s2 y2 hB2 hy2
  unfold ref10N12 at hB2
  refine sq ?_
  refine sg ?_
  refine ⟨_,rfl,_,List.length_map _,fun _=>?_⟩
  refine wT [(2,.b 2 0),(3,.b 3 0),(6,vi s2),(79,vb (decide (s2 < (p_a.Pasts.length:Int))))] [(2,.box [.s (mI p_a.Now.Nodes),vi p_a.Now.Next,vi p_a.Now.Cookie,vi p_a.Tick,.s (mB p_a.Since),.s (mA p_a.Pasts),.s (mU p_a.Taken),vi p_a.Next]),(3,.box [.s (mI p_b.Now.Nodes),vi p_b.Now.Next,vi p_b.Now.Cookie,vi p_b.Tick,.s (mB p_b.Since),.s (mA p_b.Pasts),.s (mU p_b.Taken),vi p_b.Next])] Q4 J2 rfl ?_
  refine cn 79 (decide (s2 < (p_a.Pasts.length:Int))) rfl hB2 (fun hb hB2=>?_) fun hb hB2=>?_
  ·refine sk ?_
   refine sq ?_
   refine bl ?_
   refine sg ?_
   obtain ⟨x4,hx4,hB2⟩:=bindS hB2
   refine ⟨_,rfl,_,idx_nat hx4,_,idx_row hx4,_,rfl,_,rfl,?_⟩
   refine wT [(2,.b 2 0),(3,.b 3 0),(6,vi s2),(7,.b 7 0)] [(2,.box [.s (mI p_a.Now.Nodes),vi p_a.Now.Next,vi p_a.Now.Cookie,vi p_a.Tick,.s (mB p_a.Since),.s (mA p_a.Pasts),.s (mU p_a.Taken),vi p_a.Next]),(3,.box [.s (mI p_b.Now.Nodes),vi p_b.Now.Next,vi p_b.Now.Cookie,vi p_b.Tick,.s (mB p_b.Since),.s (mA p_b.Pasts),.s (mU p_b.Taken),vi p_b.Next]),(7,.box [vi x4.From,vi x4.Till,vi x4.Node.Ino,vi x4.Node.Kind,vi x4.Node.Links,.s (mD x4.Node.Data),.s (mC x4.Node.Ents),vi x4.Node.Up])] Q4 J3 rfl ?_
   refine sg ?_
   obtain ⟨x5,hx5,hB2⟩:=bindS hB2
   refine ⟨_,rfl,_,idx_nat hx5,_,idx_row hx5,_,rfl,_,rfl,?_⟩
   refine wT [(2,.b 2 0),(3,.b 3 0),(6,vi s2),(7,.b 7 0),(8,.b 8 0)] [(2,.box [.s (mI p_a.Now.Nodes),vi p_a.Now.Next,vi p_a.Now.Cookie,vi p_a.Tick,.s (mB p_a.Since),.s (mA p_a.Pasts),.s (mU p_a.Taken),vi p_a.Next]),(3,.box [.s (mI p_b.Now.Nodes),vi p_b.Now.Next,vi p_b.Now.Cookie,vi p_b.Tick,.s (mB p_b.Since),.s (mA p_b.Pasts),.s (mU p_b.Taken),vi p_b.Next]),(7,.box [vi x4.From,vi x4.Till,vi x4.Node.Ino,vi x4.Node.Kind,vi x4.Node.Links,.s (mD x4.Node.Data),.s (mC x4.Node.Ents),vi x4.Node.Up]),(8,.box [vi x5.From,vi x5.Till,vi x5.Node.Ino,vi x5.Node.Kind,vi x5.Node.Links,.s (mD x5.Node.Data),.s (mC x5.Node.Ents),vi x5.Node.Up])] Q5 J4 rfl ?_
   obtain ⟨v4,hv4,hB2⟩:=bindS hB2
   refine Ok.seqw ⟨Cat.tab [(2,.b 2 0),(3,.b 3 0),(6,vi s2),(111,vb v4)],[(2,.box [.s (mI p_a.Now.Nodes),vi p_a.Now.Next,vi p_a.Now.Cookie,vi p_a.Tick,.s (mB p_a.Since),.s (mA p_a.Pasts),.s (mU p_a.Taken),vi p_a.Next]),(3,.box [.s (mI p_b.Now.Nodes),vi p_b.Now.Next,vi p_b.Now.Cookie,vi p_b.Tick,.s (mB p_b.Since),.s (mA p_b.Pasts),.s (mU p_b.Taken),vi p_b.Next])]⟩ ?_ ?_
   ·refine rg ?_
    refine ⟨_,rfl,_,rfl,?_⟩
    obtain ⟨c6,hg16,hv4⟩:=bindS hv4
    refine Br.itf hg16 (fun hb hg16=>?_) fun hb hg16=>?_
    ·cases hg16
     obtain ⟨c7,hg17,hv4⟩:=bindS hv4
     replace hg17:=iteT hg17
     cases hg17
     cases hv4
     exact wt Q4 J2 rfl
    refine ⟨_,rfl,_,rfl,?_⟩
    cases hg16
    obtain ⟨c7,hg18,hv4⟩:=bindS hv4
    refine Br.itf hg18 (fun hb hg18=>?_) fun hb hg18=>?_
    ·cases hg18
     cases hv4
     exact wt Q4 J2 rfl
    obtain ⟨x6,hx6,hg18⟩:=bindS hg18
    refine ⟨_,rfl,_,rfl,?_⟩
    refine CallOk.call (w_ref07N6 hx6) (LeL.refl _) ?_
    cases hg18
    cases hv4
    exact wt Q4 J2 rfl
   refine cn 111 (v4) rfl hB2 (fun hb hB2=>?_) fun hb hB2=>?_
   ·refine sg ?_
    refine wE [(4,vb false)] Q1 ?_
    refine rt ?_
    have hB2:=out_ret hB2 hy2
    cases hB2
    exact Fz.v
   refine sk ?_
   refine rg ?_
   obtain ⟨hc2,hB2⟩:=chk_some hB2
   refine (Or.inl ⟨hc2,?_⟩)
   exact ⟨_,sj hB2,wt Q3 J2 rfl⟩
  refine xt ?_
  have hB2:=out_ret hB2 hy2
  exact ⟨_,hB2,wt Q2 ⟨⟨_,rfl,.refl _⟩,⟨_,rfl,.refl _⟩,Q0⟩ rfl⟩
 intro v3 h
 unfold ref10N15 at h
 refine Ok.seqj (fun v5=>⟨Cat.tab [],[]⟩) (fun v5=>ref10N16 v5=some r) ?_ ?_
 ·refine sg ?_
  refine wT [(2,.b 2 0),(3,.b 3 0),(9,vi (0))] [(2,.box [.s (mI p_a.Now.Nodes),vi p_a.Now.Next,vi p_a.Now.Cookie,vi p_a.Tick,.s (mB p_a.Since),.s (mA p_a.Pasts),.s (mU p_a.Taken),vi p_a.Next]),(3,.box [.s (mI p_b.Now.Nodes),vi p_b.Now.Next,vi p_b.Now.Cookie,vi p_b.Tick,.s (mB p_b.Since),.s (mA p_b.Pasts),.s (mU p_b.Taken),vi p_b.Next])] Q3 J2 rfl ?_
  refine bl ?_
  refine Ok.loop (fun (s3:Int)=>⟨Cat.tab [(2,.b 2 0),(3,.b 3 0),(9,vi s3)],[(2,.box [.s (mI p_a.Now.Nodes),vi p_a.Now.Next,vi p_a.Now.Cookie,vi p_a.Tick,.s (mB p_a.Since),.s (mA p_a.Pasts),.s (mU p_a.Taken),vi p_a.Next]),(3,.box [.s (mI p_b.Now.Nodes),vi p_b.Now.Next,vi p_b.Now.Cookie,vi p_b.Tick,.s (mB p_b.Since),.s (mA p_b.Pasts),.s (mU p_b.Taken),vi p_b.Next])]⟩) (ref10N13 p_a p_b) (s0:=0) h (wt Q3 ⟨⟨_,rfl,.refl _⟩,⟨_,rfl,.refl _⟩,Q0⟩ rfl) ?_
  intro s3 y3 hB3 hy3
  unfold ref10N13 at hB3
  refine sq ?_
  refine sg ?_
  refine ⟨_,rfl,_,List.length_map _,fun _=>?_⟩
  refine wT [(2,.b 2 0),(3,.b 3 0),(9,vi s3),(116,vb (decide (s3 < (p_a.Taken.length:Int))))] [(2,.box [.s (mI p_a.Now.Nodes),vi p_a.Now.Next,vi p_a.Now.Cookie,vi p_a.Tick,.s (mB p_a.Since),.s (mA p_a.Pasts),.s (mU p_a.Taken),vi p_a.Next]),(3,.box [.s (mI p_b.Now.Nodes),vi p_b.Now.Next,vi p_b.Now.Cookie,vi p_b.Tick,.s (mB p_b.Since),.s (mA p_b.Pasts),.s (mU p_b.Taken),vi p_b.Next])] Q4 J2 rfl ?_
  refine cn 116 (decide (s3 < (p_a.Taken.length:Int))) rfl hB3 (fun hb hB3=>?_) fun hb hB3=>?_
  ·refine sk ?_
   refine sq ?_
   refine bl ?_
   refine sq ?_
   refine Ok.draw (m:=11) (MD:=⟨[]⟩) (CH:=⟨[]⟩) Tryz.tok Tryz.mixed (by kernel_rfl) ?_
   obtain ⟨x7,hx7,hB3⟩:=bindS hB3
   obtain ⟨x8,hx8,hB3⟩:=bindS hB3
   refine ⟨_,rfl,_,⟨_,rfl,rfl⟩,_,rfl,_,⟨_,idx_nat hx7,_,idx_row hx7,rfl⟩,_,⟨_,rfl,rfl⟩,_,rfl,_,⟨_,rfl,rfl⟩,_,rfl,_,⟨_,idx_nat hx8,_,idx_row hx8,rfl⟩,_,⟨_,rfl,rfl⟩,_,⟨[.one (.int .i64),.one (.int .i64),.one (.int .i64)],by kernel_rfl,rfl⟩,Q0,?_⟩
   refine wT [(2,.b 2 0),(3,.b 3 0),(9,vi s3),(129,vb (!(x7.Id == x8.Id&&(x7.Ino == x8.Ino&&(x7.At == x8.At&&true)))))] [(2,.box [.s (mI p_a.Now.Nodes),vi p_a.Now.Next,vi p_a.Now.Cookie,vi p_a.Tick,.s (mB p_a.Since),.s (mA p_a.Pasts),.s (mU p_a.Taken),vi p_a.Next]),(3,.box [.s (mI p_b.Now.Nodes),vi p_b.Now.Next,vi p_b.Now.Cookie,vi p_b.Tick,.s (mB p_b.Since),.s (mA p_b.Pasts),.s (mU p_b.Taken),vi p_b.Next])] Q4 J2 rfl ?_
   refine cn 129 (!(x7.Id == x8.Id&&(x7.Ino == x8.Ino&&(x7.At == x8.At&&true)))) rfl hB3 (fun hb hB3=>?_) fun hb hB3=>?_
   ·refine sg ?_
    refine wE [(4,vb false)] Q1 ?_
    refine rt ?_
    have hB3:=out_ret hB3 hy3
    cases hB3
    exact Fz.v
   refine sk ?_
   refine rg ?_
   obtain ⟨hc3,hB3⟩:=chk_some hB3
   refine (Or.inl ⟨hc3,?_⟩)
   exact ⟨_,sj hB3,wt Q3 J2 rfl⟩
  refine xt ?_
  have hB3:=out_ret hB3 hy3
  exact ⟨_,hB3,wt Q0 Q0 rfl⟩
 intro v5 h
 unfold ref10N16 at h
 refine sg ?_
 refine wE [(4,vb true)] Q1 ?_
 refine rt ?_
 cases h
 exact Fz.v
theorem w_law10N4 {p_l} {p_a} {r} (h:law10N6 p_l p_a=some r):Pure Tryz.prog 3 [(.s (mE p_l)),(.a [(vu p_a.Do),(vu p_a.S.Kind),(vu p_a.S.A),(vu p_a.S.B),(vu p_a.S.N),(vu p_a.S.M),(.s (mD p_a.S.Data)),(vu p_a.N)])] (vb r):=by
 refine po Tryz.tok 64 Tryz.func3 (by kernel_rfl) rfl rfl rfl ?_
 unfold law10N6 at h
 refine wE [(0,.s (mE p_l)),(1,.a [vu p_a.Do,vu p_a.S.Kind,vu p_a.S.A,vu p_a.S.B,vu p_a.S.N,vu p_a.S.M,.s (mD p_a.S.Data),vu p_a.N])] Q2 ?_
 refine sg ?_
 refine wT [(0,.s (mE p_l)),(3,.b 3 0)] [(3,.box [vu p_a.Do,vu p_a.S.Kind,vu p_a.S.A,vu p_a.S.B,vu p_a.S.N,vu p_a.S.M,.s (mD p_a.S.Data),vu p_a.N])] Q2 J1 rfl ?_
 refine sg ?_
 obtain ⟨x1,hx1,h⟩:=bindS h
 refine CallOk.call (w_law10N5 hx1) (LeL.refl _) ?_
 refine wT [(0,.s (mE p_l)),(3,.b 3 0),(5,vb x1)] [(3,.box [vu p_a.Do,vu p_a.S.Kind,vu p_a.S.A,vu p_a.S.B,vu p_a.S.N,vu p_a.S.M,.s (mD p_a.S.Data),vu p_a.N])] Q3 J1 rfl ?_
 refine sq ?_
 obtain ⟨v1,hv1,h⟩:=bindS h
 refine Ok.seqw ⟨Cat.tab [(0,.s (mE p_l)),(3,.b 3 0),(5,vb x1),(17,vb v1)],[(3,.box [vu p_a.Do,vu p_a.S.Kind,vu p_a.S.A,vu p_a.S.B,vu p_a.S.N,vu p_a.S.M,.s (mD p_a.S.Data),vu p_a.N])]⟩ ?_ ?_
 ·refine rg ?_
  obtain ⟨x2,hx2,hv1⟩:=bindS hv1
  refine CallOk.call (w_law10N2 hx2) (LeL.refl _) ?_
  obtain ⟨c1,hg1,hv1⟩:=bindS hv1
  refine Br.itf hg1 (fun hb hg1=>?_) fun hb hg1=>?_
  ·cases hg1
   cases hv1
   exact wt Q4 J1 rfl
  obtain ⟨x3,hx3,hg1⟩:=bindS hg1
  refine ⟨_,rfl,Or.inl ?_⟩
  refine CallOk.call (w_law10N2 hx3) (LeL.refl _) ?_
  cases hg1
  cases hv1
  exact wt Q4 J1 rfl
 refine cn 17 (v1) rfl h (fun hb h=>?_) fun hb h=>?_
 ·refine sg ?_
  refine wE [(4,vb x1)] Q1 ?_
  refine rt ?_
  cases h
  exact Fz.v
 refine sk ?_
 refine sg ?_
 obtain ⟨x4,hx4,h⟩:=bindS h
 refine CallOk.call (w_law10N3 hx4) (LeL.refl _) ?_
 refine ⟨_,rfl,?_⟩
 refine wT [(3,.b 3 0),(5,vb x1),(6,.b 6 0)] [(3,.box [vu p_a.Do,vu p_a.S.Kind,vu p_a.S.A,vu p_a.S.B,vu p_a.S.N,vu p_a.S.M,.s (mD p_a.S.Data),vu p_a.N]),(6,.box [.s (mI x4.Now.Nodes),vi x4.Now.Next,vi x4.Now.Cookie,vi x4.Tick,.s (mB x4.Since),.s (mA x4.Pasts),.s (mU x4.Taken),vi x4.Next])] Q3 J2 rfl ?_
 refine sg ?_
 obtain ⟨x5,hx5,h⟩:=bindS h
 refine ⟨_,rfl,_,rfl,?_⟩
 refine CallOk.call (w_law10_own hx5) (LeL.refl _) ?_
 refine ⟨_,rfl,?_⟩
 refine wT [(5,vb x1),(6,.b 6 0),(7,.b 7 0),(8,vi x5.2.1),(9,vi x5.2.2)] [(6,.box [.s (mI x4.Now.Nodes),vi x4.Now.Next,vi x4.Now.Cookie,vi x4.Tick,.s (mB x4.Since),.s (mA x4.Pasts),.s (mU x4.Taken),vi x4.Next]),(7,.box [.s (mI x5.1.Now.Nodes),vi x5.1.Now.Next,vi x5.1.Now.Cookie,vi x5.1.Tick,.s (mB x5.1.Since),.s (mA x5.1.Pasts),.s (mU x5.1.Taken),vi x5.1.Next])] Q5 J2 rfl ?_
 refine sq ?_
 refine sg ?_
 refine wT [(5,vb x1),(6,.b 6 0),(7,.b 7 0),(8,vi x5.2.1),(29,vb (x5.2.2 != 0))] [(6,.box [.s (mI x4.Now.Nodes),vi x4.Now.Next,vi x4.Now.Cookie,vi x4.Tick,.s (mB x4.Since),.s (mA x4.Pasts),.s (mU x4.Taken),vi x4.Next]),(7,.box [.s (mI x5.1.Now.Nodes),vi x5.1.Now.Next,vi x5.1.Now.Cookie,vi x5.1.Tick,.s (mB x5.1.Since),.s (mA x5.1.Pasts),.s (mU x5.1.Taken),vi x5.1.Next])] Q5 J2 rfl ?_
 refine cn 29 (x5.2.2 != 0) rfl h (fun hb h=>?_) fun hb h=>?_
 ·obtain ⟨v2,hv2,h⟩:=bindS h
  refine Ok.seqw ⟨Cat.tab [(4,vb v2)],[]⟩ ?_ ?_
  ·refine rg ?_
   obtain ⟨c2,hg2,hv2⟩:=bindS hv2
   refine Br.ite hg2 (fun hb hg2=>?_) fun hb hg2=>?_
   ·obtain ⟨x6,hx6,hg2⟩:=bindS hg2
    refine ⟨_,rfl,_,rfl,?_⟩
    refine CallOk.call (w_ref10N2 hx6) (LeL.refl _) ?_
    cases hg2
    obtain ⟨c3,hg3,hv2⟩:=bindS hv2
    refine Br.ite hg3 (fun hb hg3=>?_) fun hb hg3=>?_
    ·cases hg3
     cases hv2
     exact wt Q1 Q0 rfl
    cases hg3
    cases hv2
    exact wt Q1 Q0 rfl
   cases hg2
   obtain ⟨c3,hg4,hv2⟩:=bindS hv2
   replace hg4:=iteF hg4
   cases hg4
   cases hv2
   exact wt Q1 Q0 rfl
  refine rt ?_
  cases h
  exact Fz.v
 refine sk ?_
 obtain ⟨v3,hv3,h⟩:=bindS h
 refine Ok.seqw ⟨Cat.tab [(4,vb v3)],[]⟩ ?_ ?_
 ·refine rg ?_
  obtain ⟨c4,hg5,hv3⟩:=bindS hv3
  refine Br.ite hg5 (fun hb hg5=>?_) fun hb hg5=>?_
  ·obtain ⟨x7,hx7,hg5⟩:=bindS hg5
   refine ⟨_,rfl,?_⟩
   refine CallOk.call (w_shotN3 hx7) (LeL.refl _) ?_
   cases hg5
   obtain ⟨c5,hg6,hv3⟩:=bindS hv3
   refine Br.ite hg6 (fun hb hg6=>?_) fun hb hg6=>?_
   ·obtain ⟨x8,hx8,hg6⟩:=bindS hg6
    refine ⟨_,rfl,?_⟩
    refine CallOk.call (w_shotN3 hx8) (LeL.refl _) ?_
    cases hg6
    obtain ⟨c6,hg7,hv3⟩:=bindS hv3
    refine Br.ite hg7 (fun hb hg7=>?_) fun hb hg7=>?_
    ·refine ⟨_,rfl,_,rfl,?_⟩
     cases hg7
     obtain ⟨c7,hg8,hv3⟩:=bindS hv3
     refine Br.ite hg8 (fun hb hg8=>?_) fun hb hg8=>?_
     ·obtain ⟨hc1,hg8⟩:=chk_some hg8
      refine ⟨_,rfl,_,rfl,(Or.inl ⟨hc1,?_⟩)⟩
      cases hg8
      cases hv3
      exact wt Q1 Q0 rfl
     cases hg8
     cases hv3
     exact wt Q1 Q0 rfl
    cases hg7
    obtain ⟨c7,hg9,hv3⟩:=bindS hv3
    replace hg9:=iteF hg9
    cases hg9
    cases hv3
    exact wt Q1 Q0 rfl
   cases hg6
   obtain ⟨c6,hg10,hv3⟩:=bindS hv3
   replace hg10:=iteF hg10
   cases hg10
   obtain ⟨c7,hg11,hv3⟩:=bindS hv3
   replace hg11:=iteF hg11
   cases hg11
   cases hv3
   exact wt Q1 Q0 rfl
  cases hg5
  obtain ⟨c5,hg12,hv3⟩:=bindS hv3
  replace hg12:=iteF hg12
  cases hg12
  obtain ⟨c6,hg13,hv3⟩:=bindS hv3
  replace hg13:=iteF hg13
  cases hg13
  obtain ⟨c7,hg14,hv3⟩:=bindS hv3
  replace hg14:=iteF hg14
  cases hg14
  cases hv3
  exact wt Q1 Q0 rfl
 refine rt ?_
 cases h
 exact Fz.v
end Go.Proofs
