/- The walks of this seat beside the plain programs, part 5. No condition. -/
import Derived.Test.YthkdflbnmbnbaaaGreatXShotStillEn
import Derived.Test.YthkdflbnmbnbaaaGreatXShotStillWk0
import Derived.Test.YthkdflbnmbnbaaaGreatXShotStillWk1
import Derived.Test.YthkdflbnmbnbaaaGreatXShotStillWk2
import Derived.Test.YthkdflbnmbnbaaaGreatXShotStillWk3
import Derived.Test.YthkdflbnmbnbaaaGreatXShotStillWk4
namespace Go.Proofs
set_option linter.all false
open Go Go.Cat
variable [M:Mono]
set_option maxRecDepth 100000
theorem w_law10N1 {p_s} {p_a} {r} (h:law10_Done p_s p_a=some r):Pure Tryz.prog 31 [(.a [(.s (mI p_s.Now.Nodes)),(vi p_s.Now.Next),(vi p_s.Now.Cookie),(vi p_s.Tick),(.s (mB p_s.Since)),(.s (mA p_s.Pasts)),(.s (mU p_s.Taken)),(vi p_s.Next)]),(.a [(vu p_a.Do),(vu p_a.S.Kind),(vu p_a.S.A),(vu p_a.S.B),(vu p_a.S.N),(vu p_a.S.M),(.s (mD p_a.S.Data)),(vu p_a.N)])] (.t [(.a [(.s (mI r.1.Now.Nodes)),(vi r.1.Now.Next),(vi r.1.Now.Cookie),(vi r.1.Tick),(.s (mB r.1.Since)),(.s (mA r.1.Pasts)),(.s (mU r.1.Taken)),(vi r.1.Next)]),(vi r.2.1),(vi r.2.2)]):=by
 refine po Tryz.tok 60 Tryz.func31 (by kernel_rfl) rfl rfl rfl ?_
 unfold law10_Done at h
 refine wE [(0,.a [.s (mI p_s.Now.Nodes),vi p_s.Now.Next,vi p_s.Now.Cookie,vi p_s.Tick,.s (mB p_s.Since),.s (mA p_s.Pasts),.s (mU p_s.Taken),vi p_s.Next]),(1,.a [vu p_a.Do,vu p_a.S.Kind,vu p_a.S.A,vu p_a.S.B,vu p_a.S.N,vu p_a.S.M,.s (mD p_a.S.Data),vu p_a.N])] Q2 ?_
 refine sg ?_
 refine wT [(2,.b 2 0),(3,.b 3 0),(4,.b 4 0)] [(2,.box [.s (mI p_s.Now.Nodes),vi p_s.Now.Next,vi p_s.Now.Cookie,vi p_s.Tick,.s (mB p_s.Since),.s (mA p_s.Pasts),.s (mU p_s.Taken),vi p_s.Next]),(3,.box [vu p_a.Do,vu p_a.S.Kind,vu p_a.S.A,vu p_a.S.B,vu p_a.S.N,vu p_a.S.M,.s (mD p_a.S.Data),vu p_a.N]),(4,.box [.v (.slice none 0 0),vi (0),vi (0),vi (0),.v (.slice none 0 0),.v (.slice none 0 0),.v (.slice none 0 0),vi (0)])] Q3 J3 rfl ?_
 refine sq ?_
 refine sg ?_
 refine ⟨_,rfl,(by decide),_,b8_rem _ _,?_⟩
 refine wT [(2,.b 2 0),(3,.b 3 0),(4,.b 4 0),(17,vu (toU8 (Int.tmod (p_a.Do.toNat:Int) (8))))] [(2,.box [.s (mI p_s.Now.Nodes),vi p_s.Now.Next,vi p_s.Now.Cookie,vi p_s.Tick,.s (mB p_s.Since),.s (mA p_s.Pasts),.s (mU p_s.Taken),vi p_s.Next]),(3,.box [vu p_a.Do,vu p_a.S.Kind,vu p_a.S.A,vu p_a.S.B,vu p_a.S.N,vu p_a.S.M,.s (mD p_a.S.Data),vu p_a.N]),(4,.box [.v (.slice none 0 0),vi (0),vi (0),vi (0),.v (.slice none 0 0),.v (.slice none 0 0),.v (.slice none 0 0),vi (0)])] Q4 J3 rfl ?_
 refine bl ?_
 obtain ⟨v1,hv1,h⟩:=bindS h
 refine Ok.seqw ⟨Cat.tab [(2,.b 2 0),(3,.b 3 0),(4,.b 4 0),(17,vu (toU8 (Int.tmod (p_a.Do.toNat:Int) (8)))),(18,vb v1)],[(2,.box [.s (mI p_s.Now.Nodes),vi p_s.Now.Next,vi p_s.Now.Cookie,vi p_s.Tick,.s (mB p_s.Since),.s (mA p_s.Pasts),.s (mU p_s.Taken),vi p_s.Next]),(3,.box [vu p_a.Do,vu p_a.S.Kind,vu p_a.S.A,vu p_a.S.B,vu p_a.S.N,vu p_a.S.M,.s (mD p_a.S.Data),vu p_a.N]),(4,.box [.v (.slice none 0 0),vi (0),vi (0),vi (0),.v (.slice none 0 0),.v (.slice none 0 0),.v (.slice none 0 0),vi (0)])]⟩ ?_ ?_
 ·refine sg ?_
  refine wT [(2,.b 2 0),(3,.b 3 0),(4,.b 4 0),(17,vu (toU8 (Int.tmod (p_a.Do.toNat:Int) (8)))),(18,vb (((toU8 (Int.tmod (p_a.Do.toNat:Int) (8))).toNat:Int) == 5))] [(2,.box [.s (mI p_s.Now.Nodes),vi p_s.Now.Next,vi p_s.Now.Cookie,vi p_s.Tick,.s (mB p_s.Since),.s (mA p_s.Pasts),.s (mU p_s.Taken),vi p_s.Next]),(3,.box [vu p_a.Do,vu p_a.S.Kind,vu p_a.S.A,vu p_a.S.B,vu p_a.S.N,vu p_a.S.M,.s (mD p_a.S.Data),vu p_a.N]),(4,.box [.v (.slice none 0 0),vi (0),vi (0),vi (0),.v (.slice none 0 0),.v (.slice none 0 0),.v (.slice none 0 0),vi (0)])] Q5 J3 rfl ?_
  refine cn 18 (((toU8 (Int.tmod (p_a.Do.toNat:Int) (8))).toNat:Int) == 5) rfl hv1 (fun hb hv1=>?_) fun hb hv1=>?_
  ·refine sk ?_
   cases hv1
   exact wt Q5 J3 rfl
  refine rg ?_
  cases hv1
  exact wt Q5 J3 rfl
 refine cn 18 (v1) rfl h (fun hb h=>?_) fun hb h=>?_
 ·refine sq ?_
  refine Ok.chain (chain:=[(11,[0,1,2,3,4,5,6,7,8,9,10,13,14]),(12,[9,10,13,14])]) Tryz.tok Tryz.mixed (by kernel_rfl) ?_
  obtain ⟨x1,hx1,h⟩:=bindS h
  obtain ⟨x2,hx2,h⟩:=bindS h
  refine ⟨_,⟨_,rfl,rfl⟩,_,rfl,_,⟨_,rfl,rfl⟩,_,rfl,_,⟨_,rfl,rfl⟩,_,⟨_,.of_pure (w_law07N3 hx1) (LeL.refl _),rfl⟩,_,⟨_,.of_pure (w_ref10N2 hx2) (LeL.refl _),rfl⟩,_,rfl,_,rfl,_,rfl,_,rfl,_,rfl,_,rfl,⟨⟨_,rfl,_,rfl,rfl⟩,⟨_,rfl,rfl⟩,⟨_,rfl,_,rfl,rfl⟩,⟨_,rfl,rfl⟩,⟨_,rfl,_,rfl,rfl⟩,⟨_,rfl,_,.of_pure (w_law07N3 hx1) (LeL.refl _),rfl⟩,⟨_,rfl,_,.of_pure (w_ref10N2 hx2) (LeL.refl _),rfl⟩,⟨_,rfl,rfl⟩,⟨_,rfl,rfl⟩,⟨_,rfl,rfl⟩,⟨_,rfl,rfl⟩,⟨_,rfl,rfl⟩,⟨_,rfl,rfl⟩,Q0⟩,_,rfl,⟨⟨_,rfl,rfl⟩,⟨_,rfl,rfl⟩,⟨_,rfl,rfl⟩,⟨_,rfl,rfl⟩,Q0⟩,?_⟩
  refine wT [(4,.b 4 0),(7,.b 7 0),(8,vi x2.2.1),(9,vi x2.2.2)] [(4,.box [.v (.slice none 0 0),vi (0),vi (0),vi (0),.v (.slice none 0 0),.v (.slice none 0 0),.v (.slice none 0 0),vi (0)]),(7,.box [.s (mI x2.1.Now.Nodes),vi x2.1.Now.Next,vi x2.1.Now.Cookie,vi x2.1.Tick,.s (mB x2.1.Since),.s (mA x2.1.Pasts),.s (mU x2.1.Taken),vi x2.1.Next])] Q4 J2 rfl ?_
  refine sg ?_
  refine ⟨_,rfl,_,rfl,?_⟩
  refine wT [(4,.b 4 0),(5,vi x2.2.1),(6,vi x2.2.2)] [(4,.box [.s (mI x2.1.Now.Nodes),vi x2.1.Now.Next,vi x2.1.Now.Cookie,vi x2.1.Tick,.s (mB x2.1.Since),.s (mA x2.1.Pasts),.s (mU x2.1.Taken),vi x2.1.Next])] Q3 J1 rfl ?_
  refine rt ?_
  cases h
  exact ⟨_,rfl,(Fz.t (.cons (Fz.imm rfl) (.cons Fz.v (.cons Fz.v .nil))))⟩
 refine sg ?_
 refine wT [(2,.b 2 0),(3,.b 3 0),(4,.b 4 0),(35,vb (((toU8 (Int.tmod (p_a.Do.toNat:Int) (8))).toNat:Int) == 7))] [(2,.box [.s (mI p_s.Now.Nodes),vi p_s.Now.Next,vi p_s.Now.Cookie,vi p_s.Tick,.s (mB p_s.Since),.s (mA p_s.Pasts),.s (mU p_s.Taken),vi p_s.Next]),(3,.box [vu p_a.Do,vu p_a.S.Kind,vu p_a.S.A,vu p_a.S.B,vu p_a.S.N,vu p_a.S.M,.s (mD p_a.S.Data),vu p_a.N]),(4,.box [.v (.slice none 0 0),vi (0),vi (0),vi (0),.v (.slice none 0 0),.v (.slice none 0 0),.v (.slice none 0 0),vi (0)])] Q4 J3 rfl ?_
 refine cn 35 (((toU8 (Int.tmod (p_a.Do.toNat:Int) (8))).toNat:Int) == 7) rfl h (fun hb h=>?_) fun hb h=>?_
 ·refine sq ?_
  refine Ok.draw2 (m:=10) (late:=[8]) (MD:=⟨[]⟩) (CH:=⟨[]⟩) Tryz.tok Tryz.mixed (by kernel_rfl) ?_
  obtain ⟨x3,hx3,h⟩:=bindS h
  obtain ⟨x4,hx4,h⟩:=bindS h
  refine ⟨_,⟨_,rfl,rfl⟩,_,⟨_,rfl,rfl⟩,_,rfl,_,⟨_,rfl,rfl⟩,_,⟨_,.of_pure (w_law10N6 hx3) (LeL.refl _),rfl⟩,_,⟨_,.of_pure (w_ref10N1 hx4) (LeL.refl _),rfl⟩,_,rfl,_,rfl,_,rfl,Q0,?_⟩
  refine ⟨_,rfl,⟨⟨_,rfl,rfl⟩,Q0⟩,?_⟩
  refine wT [(4,.b 4 0),(10,.b 10 0),(11,vi x4.2)] [(4,.box [.v (.slice none 0 0),vi (0),vi (0),vi (0),.v (.slice none 0 0),.v (.slice none 0 0),.v (.slice none 0 0),vi (0)]),(10,.box [.s (mI x4.1.Now.Nodes),vi x4.1.Now.Next,vi x4.1.Now.Cookie,vi x4.1.Tick,.s (mB x4.1.Since),.s (mA x4.1.Pasts),.s (mU x4.1.Taken),vi x4.1.Next])] Q3 J2 rfl ?_
  refine sg ?_
  refine ⟨_,rfl,_,rfl,?_⟩
  refine wT [(4,.b 4 0),(5,vi (0)),(6,vi x4.2)] [(4,.box [.s (mI x4.1.Now.Nodes),vi x4.1.Now.Next,vi x4.1.Now.Cookie,vi x4.1.Tick,.s (mB x4.1.Since),.s (mA x4.1.Pasts),.s (mU x4.1.Taken),vi x4.1.Next])] Q3 J1 rfl ?_
  refine rt ?_
  cases h
  exact ⟨_,rfl,(Fz.t (.cons (Fz.imm rfl) (.cons Fz.v (.cons Fz.v .nil))))⟩
 refine sk ?_
 refine sg ?_
 obtain ⟨x5,hx5,h⟩:=bindS h
 refine ⟨_,rfl,_,rfl,?_⟩
 refine CallOk.call (w_law07N1 hx5) (LeL.refl _) ?_
 refine ⟨_,rfl,?_⟩
 refine wT [(2,.b 2 0),(4,.b 4 0),(12,.b 12 0)] [(2,.box [.s (mI p_s.Now.Nodes),vi p_s.Now.Next,vi p_s.Now.Cookie,vi p_s.Tick,.s (mB p_s.Since),.s (mA p_s.Pasts),.s (mU p_s.Taken),vi p_s.Next]),(4,.box [.v (.slice none 0 0),vi (0),vi (0),vi (0),.v (.slice none 0 0),.v (.slice none 0 0),.v (.slice none 0 0),vi (0)]),(12,.box [.s (mI x5.1.Nodes),vi x5.1.Next,vi x5.1.Cookie])] Q3 J3 rfl ?_
 refine sg ?_
 obtain ⟨x6,hx6,h⟩:=bindS h
 refine ⟨_,rfl,_,rfl,?_⟩
 refine CallOk.call (w_ref10_Put hx6) (LeL.refl _) ?_
 refine ⟨_,rfl,?_⟩
 refine wT [(4,.b 4 0),(5,vi (0)),(6,vi (0))] [(4,.box [.s (mI x6.Now.Nodes),vi x6.Now.Next,vi x6.Now.Cookie,vi x6.Tick,.s (mB x6.Since),.s (mA x6.Pasts),.s (mU x6.Taken),vi x6.Next])] Q3 J1 rfl ?_
 refine rt ?_
 cases h
 exact ⟨_,rfl,(Fz.t (.cons (Fz.imm rfl) (.cons Fz.v (.cons Fz.v .nil))))⟩
theorem w_law10N3 {p_l} {r} (h:law10_Made p_l=some r):Pure Tryz.prog 11 [(.s (mE p_l))] (.a [(.s (mI r.Now.Nodes)),(vi r.Now.Next),(vi r.Now.Cookie),(vi r.Tick),(.s (mB r.Since)),(.s (mA r.Pasts)),(.s (mU r.Taken)),(vi r.Next)]):=by
 refine po Tryz.tok 28 Tryz.func11 (by kernel_rfl) rfl rfl rfl ?_
 unfold law10_Made at h
 refine wE [(0,.s (mE p_l))] Q1 ?_
 refine sg ?_
 refine wT [(0,.s (mE p_l)),(2,.b 2 0)] [(2,.box [.v (.slice none 0 0),vi (0),vi (0),vi (0),.v (.slice none 0 0),.v (.slice none 0 0),.v (.slice none 0 0),vi (0)])] Q2 J1 rfl ?_
 refine sg ?_
 obtain ⟨x1,hx1,h⟩:=bindS h
 refine CallOk.call (w_ref07_New hx1) (LeL.refl _) ?_
 obtain ⟨x2,hx2,h⟩:=bindS h
 refine CallOk.call (w_ref10_New hx2) (LeL.refl _) ?_
 refine ⟨_,rfl,?_⟩
 refine wT [(0,.s (mE p_l)),(2,.b 2 0),(3,.b 3 0)] [(2,.box [.v (.slice none 0 0),vi (0),vi (0),vi (0),.v (.slice none 0 0),.v (.slice none 0 0),.v (.slice none 0 0),vi (0)]),(3,.box [.s (mI x2.Now.Nodes),vi x2.Now.Next,vi x2.Now.Cookie,vi x2.Tick,.s (mB x2.Since),.s (mA x2.Pasts),.s (mU x2.Taken),vi x2.Next])] Q3 J2 rfl ?_
 obtain ⟨v1,hv1,h⟩:=bindS h
 refine Ok.seqw ⟨Cat.tab [(2,.b 2 0),(3,.b 3 0)],[(2,.box [.v (.slice none 0 0),vi (0),vi (0),vi (0),.v (.slice none 0 0),.v (.slice none 0 0),.v (.slice none 0 0),vi (0)]),(3,.box [.s (mI v1.1),vi v1.2.1,vi v1.2.2.1,vi v1.2.2.2.1,.s (mB v1.2.2.2.2.1),.s (mA v1.2.2.2.2.2.1),.s (mU v1.2.2.2.2.2.2.1),vi v1.2.2.2.2.2.2.2])]⟩ ?_ ?_
 ·refine sg ?_
  refine wT [(0,.s (mE p_l)),(2,.b 2 0),(3,.b 3 0),(4,vi (0))] [(2,.box [.v (.slice none 0 0),vi (0),vi (0),vi (0),.v (.slice none 0 0),.v (.slice none 0 0),.v (.slice none 0 0),vi (0)]),(3,.box [.s (mI x2.Now.Nodes),vi x2.Now.Next,vi x2.Now.Cookie,vi x2.Tick,.s (mB x2.Since),.s (mA x2.Pasts),.s (mU x2.Taken),vi x2.Next])] Q4 J2 rfl ?_
  refine bl ?_
  refine Ok.loop (fun (s1:Int×(List api_Node)×Int×Int×Int×(List Int)×(List api_Past)×(List api_Shot)×Int)=>⟨Cat.tab [(0,.s (mE p_l)),(2,.b 2 0),(3,.b 3 0),(4,vi s1.1)],[(2,.box [.v (.slice none 0 0),vi (0),vi (0),vi (0),.v (.slice none 0 0),.v (.slice none 0 0),.v (.slice none 0 0),vi (0)]),(3,.box [.s (mI s1.2.1),vi s1.2.2.1,vi s1.2.2.2.1,vi s1.2.2.2.2.1,.s (mB s1.2.2.2.2.2.1),.s (mA s1.2.2.2.2.2.2.1),.s (mU s1.2.2.2.2.2.2.2.1),vi s1.2.2.2.2.2.2.2.2])]⟩) (law10N4 p_l) (s0:=(0,x2.Now.Nodes,x2.Now.Next,x2.Now.Cookie,x2.Tick,x2.Since,x2.Pasts,x2.Taken,x2.Next)) hv1 (wt Q4 ⟨⟨_,rfl,.refl _⟩,⟨_,rfl,.refl _⟩,Q0⟩ rfl) ?_
  intro s1 y1 hB1 hy1
  unfold law10N4 at hB1
  refine sq ?_
  refine sg ?_
  refine ⟨_,List.length_map _,fun _=>?_⟩
  refine wT [(0,.s (mE p_l)),(2,.b 2 0),(3,.b 3 0),(4,vi s1.1),(13,vb (decide (s1.1 < (p_l.length:Int))))] [(2,.box [.v (.slice none 0 0),vi (0),vi (0),vi (0),.v (.slice none 0 0),.v (.slice none 0 0),.v (.slice none 0 0),vi (0)]),(3,.box [.s (mI s1.2.1),vi s1.2.2.1,vi s1.2.2.2.1,vi s1.2.2.2.2.1,.s (mB s1.2.2.2.2.2.1),.s (mA s1.2.2.2.2.2.2.1),.s (mU s1.2.2.2.2.2.2.2.1),vi s1.2.2.2.2.2.2.2.2])] Q5 J2 rfl ?_
  refine cn 13 (decide (s1.1 < (p_l.length:Int))) rfl hB1 (fun hb hB1=>?_) fun hb hB1=>?_
  ·refine sk ?_
   refine sq ?_
   refine bl ?_
   refine sq ?_
   refine Ok.chain (chain:=[(10,[0,1,2,3,4,5,6,7,8,9,12,13]),(11,[8,9,12,13])]) Tryz.tok Tryz.mixed (by kernel_rfl) ?_
   obtain ⟨x3,hx3,hB1⟩:=bindS hB1
   obtain ⟨x4,hx4,hB1⟩:=bindS hB1
   refine ⟨_,⟨_,rfl,rfl⟩,_,rfl,_,rfl,_,⟨_,idx_nat hx3,_,idx_row hx3,rfl⟩,_,⟨_,rfl,rfl⟩,_,⟨_,.of_pure (w_law10N1 hx4) (LeL.refl _),rfl⟩,_,rfl,_,rfl,_,rfl,_,rfl,_,rfl,_,rfl,⟨⟨_,rfl,_,rfl,rfl⟩,⟨_,rfl,rfl⟩,⟨_,rfl,rfl⟩,⟨_,rfl,_,idx_nat hx3,_,idx_row hx3,rfl⟩,⟨_,rfl,_,rfl,rfl⟩,⟨_,rfl,_,.of_pure (w_law10N1 hx4) (LeL.refl _),rfl⟩,⟨_,rfl,rfl⟩,⟨_,rfl,rfl⟩,⟨_,rfl,rfl⟩,⟨_,rfl,rfl⟩,⟨_,rfl,rfl⟩,⟨_,rfl,rfl⟩,Q0⟩,_,rfl,⟨⟨_,rfl,rfl⟩,⟨_,rfl,rfl⟩,⟨_,rfl,rfl⟩,⟨_,rfl,rfl⟩,Q0⟩,?_⟩
   refine wT [(0,.s (mE p_l)),(2,.b 2 0),(3,.b 3 0),(4,vi s1.1),(5,.b 5 0)] [(2,.box [.v (.slice none 0 0),vi (0),vi (0),vi (0),.v (.slice none 0 0),.v (.slice none 0 0),.v (.slice none 0 0),vi (0)]),(3,.box [.s (mI s1.2.1),vi s1.2.2.1,vi s1.2.2.2.1,vi s1.2.2.2.2.1,.s (mB s1.2.2.2.2.2.1),.s (mA s1.2.2.2.2.2.2.1),.s (mU s1.2.2.2.2.2.2.2.1),vi s1.2.2.2.2.2.2.2.2]),(5,.box [.s (mI x4.1.Now.Nodes),vi x4.1.Now.Next,vi x4.1.Now.Cookie,vi x4.1.Tick,.s (mB x4.1.Since),.s (mA x4.1.Pasts),.s (mU x4.1.Taken),vi x4.1.Next])] Q5 J3 rfl ?_
   refine rg ?_
   refine ⟨_,rfl,_,rfl,?_⟩
   refine wT [(0,.s (mE p_l)),(2,.b 2 0),(3,.b 3 0),(4,vi s1.1)] [(2,.box [.v (.slice none 0 0),vi (0),vi (0),vi (0),.v (.slice none 0 0),.v (.slice none 0 0),.v (.slice none 0 0),vi (0)]),(3,.box [.s (mI x4.1.Now.Nodes),vi x4.1.Now.Next,vi x4.1.Now.Cookie,vi x4.1.Tick,.s (mB x4.1.Since),.s (mA x4.1.Pasts),.s (mU x4.1.Taken),vi x4.1.Next])] Q4 J2 rfl ?_
   refine rg ?_
   obtain ⟨hc1,hB1⟩:=chk_some hB1
   refine (Or.inl ⟨hc1,?_⟩)
   exact ⟨_,sj hB1,wt Q4 J2 rfl⟩
  refine xt ?_
  have hB1:=out_ret hB1 hy1
  cases hB1
  exact wt Q2 J2 rfl
 refine sg ?_
 refine ⟨_,rfl,_,rfl,?_⟩
 refine wT [(2,.b 2 0)] [(2,.box [.s (mI v1.1),vi v1.2.1,vi v1.2.2.1,vi v1.2.2.2.1,.s (mB v1.2.2.2.2.1),.s (mA v1.2.2.2.2.2.1),.s (mU v1.2.2.2.2.2.2.1),vi v1.2.2.2.2.2.2.2])] Q1 J1 rfl ?_
 refine rt ?_
 cases h
 exact ⟨_,rfl,(Fz.imm rfl)⟩
theorem w_law10_own {p_s} {p_a} {r} (h:law10_own p_s p_a=some r):Pure Tryz.prog 12 [(.a [(.s (mI p_s.Now.Nodes)),(vi p_s.Now.Next),(vi p_s.Now.Cookie),(vi p_s.Tick),(.s (mB p_s.Since)),(.s (mA p_s.Pasts)),(.s (mU p_s.Taken)),(vi p_s.Next)]),(.a [(vu p_a.Do),(vu p_a.S.Kind),(vu p_a.S.A),(vu p_a.S.B),(vu p_a.S.N),(vu p_a.S.M),(.s (mD p_a.S.Data)),(vu p_a.N)])] (.t [(.a [(.s (mI r.1.Now.Nodes)),(vi r.1.Now.Next),(vi r.1.Now.Cookie),(vi r.1.Tick),(.s (mB r.1.Since)),(.s (mA r.1.Pasts)),(.s (mU r.1.Taken)),(vi r.1.Next)]),(vi r.2.1),(vi r.2.2)]):=by
 refine po Tryz.tok 60 Tryz.func12 (by kernel_rfl) rfl rfl rfl ?_
 unfold law10_own at h
 refine wE [(0,.a [.s (mI p_s.Now.Nodes),vi p_s.Now.Next,vi p_s.Now.Cookie,vi p_s.Tick,.s (mB p_s.Since),.s (mA p_s.Pasts),.s (mU p_s.Taken),vi p_s.Next]),(1,.a [vu p_a.Do,vu p_a.S.Kind,vu p_a.S.A,vu p_a.S.B,vu p_a.S.N,vu p_a.S.M,.s (mD p_a.S.Data),vu p_a.N])] Q2 ?_
 refine sg ?_
 refine wT [(2,.b 2 0),(3,.b 3 0),(4,.b 4 0)] [(2,.box [.s (mI p_s.Now.Nodes),vi p_s.Now.Next,vi p_s.Now.Cookie,vi p_s.Tick,.s (mB p_s.Since),.s (mA p_s.Pasts),.s (mU p_s.Taken),vi p_s.Next]),(3,.box [vu p_a.Do,vu p_a.S.Kind,vu p_a.S.A,vu p_a.S.B,vu p_a.S.N,vu p_a.S.M,.s (mD p_a.S.Data),vu p_a.N]),(4,.box [.v (.slice none 0 0),vi (0),vi (0),vi (0),.v (.slice none 0 0),.v (.slice none 0 0),.v (.slice none 0 0),vi (0)])] Q3 J3 rfl ?_
 refine sq ?_
 refine sg ?_
 refine ⟨_,rfl,(by decide),_,b8_rem _ _,?_⟩
 refine wT [(2,.b 2 0),(3,.b 3 0),(4,.b 4 0),(17,vu (toU8 (Int.tmod (p_a.Do.toNat:Int) (8))))] [(2,.box [.s (mI p_s.Now.Nodes),vi p_s.Now.Next,vi p_s.Now.Cookie,vi p_s.Tick,.s (mB p_s.Since),.s (mA p_s.Pasts),.s (mU p_s.Taken),vi p_s.Next]),(3,.box [vu p_a.Do,vu p_a.S.Kind,vu p_a.S.A,vu p_a.S.B,vu p_a.S.N,vu p_a.S.M,.s (mD p_a.S.Data),vu p_a.N]),(4,.box [.v (.slice none 0 0),vi (0),vi (0),vi (0),.v (.slice none 0 0),.v (.slice none 0 0),.v (.slice none 0 0),vi (0)])] Q4 J3 rfl ?_
 refine bl ?_
 obtain ⟨v1,hv1,h⟩:=bindS h
 refine Ok.seqw ⟨Cat.tab [(2,.b 2 0),(3,.b 3 0),(4,.b 4 0),(17,vu (toU8 (Int.tmod (p_a.Do.toNat:Int) (8)))),(18,vb v1)],[(2,.box [.s (mI p_s.Now.Nodes),vi p_s.Now.Next,vi p_s.Now.Cookie,vi p_s.Tick,.s (mB p_s.Since),.s (mA p_s.Pasts),.s (mU p_s.Taken),vi p_s.Next]),(3,.box [vu p_a.Do,vu p_a.S.Kind,vu p_a.S.A,vu p_a.S.B,vu p_a.S.N,vu p_a.S.M,.s (mD p_a.S.Data),vu p_a.N]),(4,.box [.v (.slice none 0 0),vi (0),vi (0),vi (0),.v (.slice none 0 0),.v (.slice none 0 0),.v (.slice none 0 0),vi (0)])]⟩ ?_ ?_
 ·refine sg ?_
  refine wT [(2,.b 2 0),(3,.b 3 0),(4,.b 4 0),(17,vu (toU8 (Int.tmod (p_a.Do.toNat:Int) (8)))),(18,vb (((toU8 (Int.tmod (p_a.Do.toNat:Int) (8))).toNat:Int) == 5))] [(2,.box [.s (mI p_s.Now.Nodes),vi p_s.Now.Next,vi p_s.Now.Cookie,vi p_s.Tick,.s (mB p_s.Since),.s (mA p_s.Pasts),.s (mU p_s.Taken),vi p_s.Next]),(3,.box [vu p_a.Do,vu p_a.S.Kind,vu p_a.S.A,vu p_a.S.B,vu p_a.S.N,vu p_a.S.M,.s (mD p_a.S.Data),vu p_a.N]),(4,.box [.v (.slice none 0 0),vi (0),vi (0),vi (0),.v (.slice none 0 0),.v (.slice none 0 0),.v (.slice none 0 0),vi (0)])] Q5 J3 rfl ?_
  refine cn 18 (((toU8 (Int.tmod (p_a.Do.toNat:Int) (8))).toNat:Int) == 5) rfl hv1 (fun hb hv1=>?_) fun hb hv1=>?_
  ·refine sk ?_
   cases hv1
   exact wt Q5 J3 rfl
  refine rg ?_
  cases hv1
  exact wt Q5 J3 rfl
 refine cn 18 (v1) rfl h (fun hb h=>?_) fun hb h=>?_
 ·refine sq ?_
  refine Ok.chain (chain:=[(11,[0,1,2,3,4,5,6,7,8,9,10,13,14]),(12,[9,10,13,14])]) Tryz.tok Tryz.mixed (by kernel_rfl) ?_
  obtain ⟨x1,hx1,h⟩:=bindS h
  obtain ⟨x2,hx2,h⟩:=bindS h
  refine ⟨_,⟨_,rfl,rfl⟩,_,rfl,_,⟨_,rfl,rfl⟩,_,rfl,_,⟨_,rfl,rfl⟩,_,⟨_,.of_pure (w_law07N3 hx1) (LeL.refl _),rfl⟩,_,⟨_,.of_pure (w_shot_Take hx2) (LeL.refl _),rfl⟩,_,rfl,_,rfl,_,rfl,_,rfl,_,rfl,_,rfl,⟨⟨_,rfl,_,rfl,rfl⟩,⟨_,rfl,rfl⟩,⟨_,rfl,_,rfl,rfl⟩,⟨_,rfl,rfl⟩,⟨_,rfl,_,rfl,rfl⟩,⟨_,rfl,_,.of_pure (w_law07N3 hx1) (LeL.refl _),rfl⟩,⟨_,rfl,_,.of_pure (w_shot_Take hx2) (LeL.refl _),rfl⟩,⟨_,rfl,rfl⟩,⟨_,rfl,rfl⟩,⟨_,rfl,rfl⟩,⟨_,rfl,rfl⟩,⟨_,rfl,rfl⟩,⟨_,rfl,rfl⟩,Q0⟩,_,rfl,⟨⟨_,rfl,rfl⟩,⟨_,rfl,rfl⟩,⟨_,rfl,rfl⟩,⟨_,rfl,rfl⟩,Q0⟩,?_⟩
  refine wT [(4,.b 4 0),(7,.b 7 0),(8,vi x2.2.1),(9,vi x2.2.2)] [(4,.box [.v (.slice none 0 0),vi (0),vi (0),vi (0),.v (.slice none 0 0),.v (.slice none 0 0),.v (.slice none 0 0),vi (0)]),(7,.box [.s (mI x2.1.Now.Nodes),vi x2.1.Now.Next,vi x2.1.Now.Cookie,vi x2.1.Tick,.s (mB x2.1.Since),.s (mA x2.1.Pasts),.s (mU x2.1.Taken),vi x2.1.Next])] Q4 J2 rfl ?_
  refine sg ?_
  refine ⟨_,rfl,_,rfl,?_⟩
  refine wT [(4,.b 4 0),(5,vi x2.2.1),(6,vi x2.2.2)] [(4,.box [.s (mI x2.1.Now.Nodes),vi x2.1.Now.Next,vi x2.1.Now.Cookie,vi x2.1.Tick,.s (mB x2.1.Since),.s (mA x2.1.Pasts),.s (mU x2.1.Taken),vi x2.1.Next])] Q3 J1 rfl ?_
  refine rt ?_
  cases h
  exact ⟨_,rfl,(Fz.t (.cons (Fz.imm rfl) (.cons Fz.v (.cons Fz.v .nil))))⟩
 refine sg ?_
 refine wT [(2,.b 2 0),(3,.b 3 0),(4,.b 4 0),(35,vb (((toU8 (Int.tmod (p_a.Do.toNat:Int) (8))).toNat:Int) == 7))] [(2,.box [.s (mI p_s.Now.Nodes),vi p_s.Now.Next,vi p_s.Now.Cookie,vi p_s.Tick,.s (mB p_s.Since),.s (mA p_s.Pasts),.s (mU p_s.Taken),vi p_s.Next]),(3,.box [vu p_a.Do,vu p_a.S.Kind,vu p_a.S.A,vu p_a.S.B,vu p_a.S.N,vu p_a.S.M,.s (mD p_a.S.Data),vu p_a.N]),(4,.box [.v (.slice none 0 0),vi (0),vi (0),vi (0),.v (.slice none 0 0),.v (.slice none 0 0),.v (.slice none 0 0),vi (0)])] Q4 J3 rfl ?_
 refine cn 35 (((toU8 (Int.tmod (p_a.Do.toNat:Int) (8))).toNat:Int) == 7) rfl h (fun hb h=>?_) fun hb h=>?_
 ·refine sq ?_
  refine Ok.draw2 (m:=10) (late:=[8]) (MD:=⟨[]⟩) (CH:=⟨[]⟩) Tryz.tok Tryz.mixed (by kernel_rfl) ?_
  obtain ⟨x3,hx3,h⟩:=bindS h
  obtain ⟨x4,hx4,h⟩:=bindS h
  refine ⟨_,⟨_,rfl,rfl⟩,_,⟨_,rfl,rfl⟩,_,rfl,_,⟨_,rfl,rfl⟩,_,⟨_,.of_pure (w_law10N6 hx3) (LeL.refl _),rfl⟩,_,⟨_,.of_pure (w_shot_Drop hx4) (LeL.refl _),rfl⟩,_,rfl,_,rfl,_,rfl,Q0,?_⟩
  refine ⟨_,rfl,⟨⟨_,rfl,rfl⟩,Q0⟩,?_⟩
  refine wT [(4,.b 4 0),(10,.b 10 0),(11,vi x4.2)] [(4,.box [.v (.slice none 0 0),vi (0),vi (0),vi (0),.v (.slice none 0 0),.v (.slice none 0 0),.v (.slice none 0 0),vi (0)]),(10,.box [.s (mI x4.1.Now.Nodes),vi x4.1.Now.Next,vi x4.1.Now.Cookie,vi x4.1.Tick,.s (mB x4.1.Since),.s (mA x4.1.Pasts),.s (mU x4.1.Taken),vi x4.1.Next])] Q3 J2 rfl ?_
  refine sg ?_
  refine ⟨_,rfl,_,rfl,?_⟩
  refine wT [(4,.b 4 0),(5,vi (0)),(6,vi x4.2)] [(4,.box [.s (mI x4.1.Now.Nodes),vi x4.1.Now.Next,vi x4.1.Now.Cookie,vi x4.1.Tick,.s (mB x4.1.Since),.s (mA x4.1.Pasts),.s (mU x4.1.Taken),vi x4.1.Next])] Q3 J1 rfl ?_
  refine rt ?_
  cases h
  exact ⟨_,rfl,(Fz.t (.cons (Fz.imm rfl) (.cons Fz.v (.cons Fz.v .nil))))⟩
 refine sk ?_
 refine sg ?_
 obtain ⟨x5,hx5,h⟩:=bindS h
 refine ⟨_,rfl,_,rfl,?_⟩
 refine CallOk.call (w_law07N1 hx5) (LeL.refl _) ?_
 refine ⟨_,rfl,?_⟩
 refine wT [(2,.b 2 0),(4,.b 4 0),(12,.b 12 0)] [(2,.box [.s (mI p_s.Now.Nodes),vi p_s.Now.Next,vi p_s.Now.Cookie,vi p_s.Tick,.s (mB p_s.Since),.s (mA p_s.Pasts),.s (mU p_s.Taken),vi p_s.Next]),(4,.box [.v (.slice none 0 0),vi (0),vi (0),vi (0),.v (.slice none 0 0),.v (.slice none 0 0),.v (.slice none 0 0),vi (0)]),(12,.box [.s (mI x5.1.Nodes),vi x5.1.Next,vi x5.1.Cookie])] Q3 J3 rfl ?_
 refine sg ?_
 obtain ⟨x6,hx6,h⟩:=bindS h
 refine ⟨_,rfl,_,rfl,?_⟩
 refine CallOk.call (w_shot_Put hx6) (LeL.refl _) ?_
 refine ⟨_,rfl,?_⟩
 refine wT [(4,.b 4 0),(5,vi (0)),(6,vi (0))] [(4,.box [.s (mI x6.Now.Nodes),vi x6.Now.Next,vi x6.Now.Cookie,vi x6.Tick,.s (mB x6.Since),.s (mA x6.Pasts),.s (mU x6.Taken),vi x6.Next])] Q3 J1 rfl ?_
 refine rt ?_
 cases h
 exact ⟨_,rfl,(Fz.t (.cons (Fz.imm rfl) (.cons Fz.v (.cons Fz.v .nil))))⟩
theorem w_ref07N18 {p_t} {p_ino} {p_in} {r} (h:ref07_names p_t p_ino p_in=some r):Pure Tryz.prog 80 [(.a [(.s (mI p_t.Nodes)),(vi p_t.Next),(vi p_t.Cookie)]),(vi p_ino),(vi p_in)] (.t [(vi r.1),(vi r.2)]):=by
 refine po Tryz.tok 56 Tryz.func80 (by kernel_rfl) rfl rfl rfl ?_
 unfold ref07_names at h
 refine wE [(0,.a [.s (mI p_t.Nodes),vi p_t.Next,vi p_t.Cookie]),(1,vi p_ino),(2,vi p_in)] Q3 ?_
 refine sg ?_
 refine wT [(1,vi p_ino),(2,vi p_in),(3,.b 3 0)] [(3,.box [.s (mI p_t.Nodes),vi p_t.Next,vi p_t.Cookie])] Q3 J1 rfl ?_
 refine sg ?_
 refine wT [(1,vi p_ino),(2,vi p_in),(3,.b 3 0),(8,vi (0))] [(3,.box [.s (mI p_t.Nodes),vi p_t.Next,vi p_t.Cookie])] Q4 J1 rfl ?_
 refine sg ?_
 refine wT [(1,vi p_ino),(2,vi p_in),(3,.b 3 0),(8,vi (0)),(9,vi (0))] [(3,.box [.s (mI p_t.Nodes),vi p_t.Next,vi p_t.Cookie])] Q5 J1 rfl ?_
 obtain ⟨v1,hv1,h⟩:=bindS h
 refine Ok.seqw ⟨Cat.tab [(8,vi v1.1),(9,vi v1.2)],[]⟩ ?_ ?_
 ·refine sg ?_
  refine wT [(1,vi p_ino),(2,vi p_in),(3,.b 3 0),(8,vi (0)),(9,vi (0)),(10,vi (0))] [(3,.box [.s (mI p_t.Nodes),vi p_t.Next,vi p_t.Cookie])] Q6 J1 rfl ?_
  refine bl ?_
  refine Ok.loop (fun (s1:Int×Int×Int)=>⟨Cat.tab [(1,vi p_ino),(2,vi p_in),(3,.b 3 0),(8,vi s1.1),(9,vi s1.2.1),(10,vi s1.2.2)],[(3,.box [.s (mI p_t.Nodes),vi p_t.Next,vi p_t.Cookie])]⟩) (ref07N48 p_t p_ino p_in) (s0:=(0,0,0)) hv1 (wt Q6 ⟨⟨_,rfl,.refl _⟩,Q0⟩ rfl) ?_
  intro s1 y1 hB1 hy1
  unfold ref07N48 at hB1
  refine sq ?_
  refine sg ?_
  refine ⟨_,rfl,_,List.length_map _,fun _=>?_⟩
  refine wT [(1,vi p_ino),(2,vi p_in),(3,.b 3 0),(8,vi s1.1),(9,vi s1.2.1),(10,vi s1.2.2),(16,vb (decide (s1.2.2 < (p_t.Nodes.length:Int))))] [(3,.box [.s (mI p_t.Nodes),vi p_t.Next,vi p_t.Cookie])] Q7 J1 rfl ?_
  refine cn 16 (decide (s1.2.2 < (p_t.Nodes.length:Int))) rfl hB1 (fun hb hB1=>?_) fun hb hB1=>?_
  ·refine sk ?_
   obtain ⟨v2,hv2,hB1⟩:=bindS hB1
   refine Ok.seqw ⟨Cat.tab [(1,vi p_ino),(2,vi p_in),(3,.b 3 0),(8,vi v2.1),(9,vi v2.2),(10,vi s1.2.2)],[(3,.box [.s (mI p_t.Nodes),vi p_t.Next,vi p_t.Cookie])]⟩ ?_ ?_
   ·refine bl ?_
    refine sg ?_
    refine wT [(1,vi p_ino),(2,vi p_in),(3,.b 3 0),(8,vi s1.1),(9,vi s1.2.1),(10,vi s1.2.2),(11,vi (0))] [(3,.box [.s (mI p_t.Nodes),vi p_t.Next,vi p_t.Cookie])] Q7 J1 rfl ?_
    refine bl ?_
    refine Ok.loop (fun (s2:Int×Int×Int)=>⟨Cat.tab [(1,vi p_ino),(2,vi p_in),(3,.b 3 0),(8,vi s2.1),(9,vi s2.2.1),(10,vi s1.2.2),(11,vi s2.2.2)],[(3,.box [.s (mI p_t.Nodes),vi p_t.Next,vi p_t.Cookie])]⟩) (ref07N49 p_t s1 p_ino p_in) (s0:=(s1.1,s1.2.1,0)) hv2 (wt Q7 ⟨⟨_,rfl,.refl _⟩,Q0⟩ rfl) ?_
    intro s2 y2 hB2 hy2
    unfold ref07N49 at hB2
    refine sq ?_
    refine sg ?_
    obtain ⟨x1,hx1,hB2⟩:=bindS hB2
    refine ⟨_,rfl,_,idx_nat hx1,_,idx_row hx1,_,rfl,_,List.length_map _,fun _=>?_⟩
    refine wT [(1,vi p_ino),(2,vi p_in),(3,.b 3 0),(8,vi s2.1),(9,vi s2.2.1),(10,vi s1.2.2),(11,vi s2.2.2),(27,vb (decide (s2.2.2 < (x1.Ents.length:Int))))] [(3,.box [.s (mI p_t.Nodes),vi p_t.Next,vi p_t.Cookie])] Q8 J1 rfl ?_
    refine cn 27 (decide (s2.2.2 < (x1.Ents.length:Int))) rfl hB2 (fun hb hB2=>?_) fun hb hB2=>?_
    ·refine sk ?_
     obtain ⟨v3,hv3,hB2⟩:=bindS hB2
     refine Ok.seqw ⟨Cat.tab [(1,vi p_ino),(2,vi p_in),(3,.b 3 0),(8,vi v3.1),(9,vi v3.2),(10,vi s1.2.2),(11,vi s2.2.2)],[(3,.box [.s (mI p_t.Nodes),vi p_t.Next,vi p_t.Cookie])]⟩ ?_ ?_
     ·refine bl ?_
      refine sg ?_
      obtain ⟨x2,hx2,hv3⟩:=bindS hv3
      obtain ⟨x3,hx3,hv3⟩:=bindS hv3
      refine ⟨_,rfl,_,idx_nat hx2,_,idx_row hx2,_,rfl,_,idx_nat hx3,_,idx_row hx3,_,rfl,?_⟩
      refine wT [(1,vi p_ino),(2,vi p_in),(3,.b 3 0),(8,vi s2.1),(9,vi s2.2.1),(10,vi s1.2.2),(11,vi s2.2.2),(41,vb (x3.Ino == p_ino))] [(3,.box [.s (mI p_t.Nodes),vi p_t.Next,vi p_t.Cookie])] Q8 J1 rfl ?_
      refine cn 41 (x3.Ino == p_ino) rfl hv3 (fun hb hv3=>?_) fun hb hv3=>?_
      ·refine sg ?_
       obtain ⟨hc1,hv3⟩:=chk_some hv3
       refine (Or.inl ⟨hc1,?_⟩)
       refine wT [(1,vi p_ino),(2,vi p_in),(3,.b 3 0),(8,vi (s2.1+1)),(9,vi s2.2.1),(10,vi s1.2.2),(11,vi s2.2.2)] [(3,.box [.s (mI p_t.Nodes),vi p_t.Next,vi p_t.Cookie])] Q7 J1 rfl ?_
       refine sg ?_
       obtain ⟨x4,hx4,hv3⟩:=bindS hv3
       refine ⟨_,rfl,_,idx_nat hx4,_,idx_row hx4,_,rfl,?_⟩
       refine wT [(1,vi p_ino),(2,vi p_in),(3,.b 3 0),(8,vi (s2.1+1)),(9,vi s2.2.1),(10,vi s1.2.2),(11,vi s2.2.2),(51,vb (x4.Ino == p_in))] [(3,.box [.s (mI p_t.Nodes),vi p_t.Next,vi p_t.Cookie])] Q8 J1 rfl ?_
       refine cn 51 (x4.Ino == p_in) rfl hv3 (fun hb hv3=>?_) fun hb hv3=>?_
       ·refine rg ?_
        obtain ⟨hc2,hv3⟩:=chk_some hv3
        refine (Or.inl ⟨hc2,?_⟩)
        cases hv3
        exact wt Q7 J1 rfl
       refine sk ?_
       cases hv3
       exact wt Q7 J1 rfl
      refine sk ?_
      cases hv3
      exact wt Q7 J1 rfl
     refine rg ?_
     obtain ⟨hc3,hB2⟩:=chk_some hB2
     refine (Or.inl ⟨hc3,?_⟩)
     exact ⟨_,sj hB2,wt Q7 J1 rfl⟩
    refine xt ?_
    have hB2:=out_ret hB2 hy2
    cases hB2
    exact wt Q6 J1 rfl
   refine rg ?_
   obtain ⟨hc4,hB1⟩:=chk_some hB1
   refine (Or.inl ⟨hc4,?_⟩)
   exact ⟨_,sj hB1,wt Q6 J1 rfl⟩
  refine xt ?_
  have hB1:=out_ret hB1 hy1
  cases hB1
  exact wt Q2 Q0 rfl
 refine sg ?_
 refine wE [(6,vi v1.1),(7,vi v1.2)] Q2 ?_
 refine rt ?_
 cases h
 exact (Fz.t (.cons Fz.v (.cons Fz.v .nil)))
theorem w_ref07N13 {p_t} {p_n} {r} (h:ref07_ents p_t p_n=some r):Pure Tryz.prog 81 [(.a [(.s (mI p_t.Nodes)),(vi p_t.Next),(vi p_t.Cookie)]),(.a [(vi p_n.Ino),(vi p_n.Kind),(vi p_n.Links),(.s (mD p_n.Data)),(.s (mC p_n.Ents)),(vi p_n.Up)])] (vb r):=by
 refine po Tryz.tok 77 Tryz.func81 (by kernel_rfl) rfl rfl rfl ?_
 unfold ref07_ents at h
 refine wE [(0,.a [.s (mI p_t.Nodes),vi p_t.Next,vi p_t.Cookie]),(1,.a [vi p_n.Ino,vi p_n.Kind,vi p_n.Links,.s (mD p_n.Data),.s (mC p_n.Ents),vi p_n.Up])] Q2 ?_
 refine sg ?_
 refine wT [(2,.b 2 0),(3,.b 3 0)] [(2,.box [.s (mI p_t.Nodes),vi p_t.Next,vi p_t.Cookie]),(3,.box [vi p_n.Ino,vi p_n.Kind,vi p_n.Links,.s (mD p_n.Data),.s (mC p_n.Ents),vi p_n.Up])] Q2 J2 rfl ?_
 refine sq ?_
 refine sg ?_
 refine ⟨_,rfl,_,List.length_map _,fun _=>?_⟩
 refine wT [(2,.b 2 0),(3,.b 3 0),(11,vb (decide ((p_n.Ents.length:Int) > 64)))] [(2,.box [.s (mI p_t.Nodes),vi p_t.Next,vi p_t.Cookie]),(3,.box [vi p_n.Ino,vi p_n.Kind,vi p_n.Links,.s (mD p_n.Data),.s (mC p_n.Ents),vi p_n.Up])] Q3 J2 rfl ?_
 refine cn 11 (decide ((p_n.Ents.length:Int) > 64)) rfl h (fun hb h=>?_) fun hb h=>?_
 ·refine sg ?_
  refine wE [(4,vb false)] Q1 ?_
  refine rt ?_
  cases h
  exact Fz.v
 refine sk ?_
 refine Ok.seqj (fun v1=>⟨Cat.tab [],[]⟩) (fun v1=>ref07N34 v1=some r) ?_ ?_
 ·refine sg ?_
  refine wT [(2,.b 2 0),(3,.b 3 0),(5,vi (0))] [(2,.box [.s (mI p_t.Nodes),vi p_t.Next,vi p_t.Cookie]),(3,.box [vi p_n.Ino,vi p_n.Kind,vi p_n.Links,.s (mD p_n.Data),.s (mC p_n.Ents),vi p_n.Up])] Q3 J2 rfl ?_
  refine bl ?_
  refine Ok.loop (fun (s1:Int)=>⟨Cat.tab [(2,.b 2 0),(3,.b 3 0),(5,vi s1)],[(2,.box [.s (mI p_t.Nodes),vi p_t.Next,vi p_t.Cookie]),(3,.box [vi p_n.Ino,vi p_n.Kind,vi p_n.Links,.s (mD p_n.Data),.s (mC p_n.Ents),vi p_n.Up])]⟩) (ref07N32 p_n p_t) (s0:=0) h (wt Q3 ⟨⟨_,rfl,.refl _⟩,⟨_,rfl,.refl _⟩,Q0⟩ rfl) ?_
  intro s1 y1 hB1 hy1
  unfold ref07N32 at hB1
  refine sq ?_
  refine sg ?_
  refine ⟨_,rfl,_,List.length_map _,fun _=>?_⟩
  refine wT [(2,.b 2 0),(3,.b 3 0),(5,vi s1),(16,vb (decide (s1 < (p_n.Ents.length:Int))))] [(2,.box [.s (mI p_t.Nodes),vi p_t.Next,vi p_t.Cookie]),(3,.box [vi p_n.Ino,vi p_n.Kind,vi p_n.Links,.s (mD p_n.Data),.s (mC p_n.Ents),vi p_n.Up])] Q4 J2 rfl ?_
  refine cn 16 (decide (s1 < (p_n.Ents.length:Int))) rfl hB1 (fun hb hB1=>?_) fun hb hB1=>?_
  ·refine sk ?_
   refine Ok.seqj (fun v2=>⟨Cat.tab [(2,.b 2 0),(3,.b 3 0),(5,vi s1)],[(2,.box [.s (mI p_t.Nodes),vi p_t.Next,vi p_t.Cookie]),(3,.box [vi p_n.Ino,vi p_n.Kind,vi p_n.Links,.s (mD p_n.Data),.s (mC p_n.Ents),vi p_n.Up])]⟩) (fun v2=>ref07N35 s1 v2=some y1) ?_ ?_
   ·refine bl ?_
    refine sg ?_
    obtain ⟨x1,hx1,hB1⟩:=bindS hB1
    refine ⟨_,rfl,_,idx_nat hx1,_,idx_row hx1,_,rfl,_,rfl,?_⟩
    refine wT [(2,.b 2 0),(3,.b 3 0),(5,vi s1),(6,.b 6 0)] [(2,.box [.s (mI p_t.Nodes),vi p_t.Next,vi p_t.Cookie]),(3,.box [vi p_n.Ino,vi p_n.Kind,vi p_n.Links,.s (mD p_n.Data),.s (mC p_n.Ents),vi p_n.Up]),(6,.box [vs x1.Name,vi x1.Ino,vi x1.Cookie])] Q4 J3 rfl ?_
    refine sq ?_
    obtain ⟨v3,hv3,hB1⟩:=bindS hB1
    refine Ok.seqw ⟨Cat.tab [(2,.b 2 0),(3,.b 3 0),(5,vi s1),(6,.b 6 0),(62,vb v3)],[(2,.box [.s (mI p_t.Nodes),vi p_t.Next,vi p_t.Cookie]),(3,.box [vi p_n.Ino,vi p_n.Kind,vi p_n.Links,.s (mD p_n.Data),.s (mC p_n.Ents),vi p_n.Up]),(6,.box [vs x1.Name,vi x1.Ino,vi x1.Cookie])]⟩ ?_ ?_
    ·refine Ok.draw (m:=39) (MD:=⟨[]⟩) (CH:=⟨[]⟩) Tryz.tok Tryz.mixed (by kernel_rfl) ?_
     obtain ⟨x2,hx2,hv3⟩:=bindS hv3
     refine ⟨_,rfl,_,⟨_,rfl,rfl⟩,_,⟨_,.of_pure (w_ref06N1 hx2) (LeL.refl _),rfl⟩,_,rfl,_,rfl,?_⟩
     obtain ⟨c1,hg1,hv3⟩:=bindS hv3
     refine Br.itf hg1 (fun hb hg1=>?_) fun hb hg1=>?_
     ·cases hg1
      refine ⟨_,rfl,?_⟩
      refine ⟨_,rfl,?_⟩
      obtain ⟨c2,hg2,hv3⟩:=bindS hv3
      replace hg2:=iteT hg2
      cases hg2
      refine ⟨_,rfl,?_⟩
      refine ⟨_,rfl,?_⟩
      obtain ⟨c3,hg3,hv3⟩:=bindS hv3
      replace hg3:=iteT hg3
      cases hg3
      refine ⟨_,rfl,?_⟩
      refine ⟨_,rfl,?_⟩
      obtain ⟨c5,hg4,hv3⟩:=bindS hv3
      replace hg4:=iteT hg4
      cases hg4
      refine ⟨_,rfl,?_⟩
      refine ⟨Q0,?_⟩
      cases hv3
      exact wt Q5 J3 rfl
     refine ⟨_,rfl,_,⟨_,rfl,rfl⟩,_,rfl,?_⟩
     cases hg1
     refine ⟨_,rfl,?_⟩
     refine ⟨_,rfl,?_⟩
     obtain ⟨c2,hg5,hv3⟩:=bindS hv3
     refine Br.itf hg5 (fun hb hg5=>?_) fun hb hg5=>?_
     ·cases hg5
      refine ⟨_,rfl,?_⟩
      refine ⟨_,rfl,?_⟩
      obtain ⟨c3,hg6,hv3⟩:=bindS hv3
      replace hg6:=iteT hg6
      cases hg6
      refine ⟨_,rfl,?_⟩
      refine ⟨_,rfl,?_⟩
      obtain ⟨c5,hg7,hv3⟩:=bindS hv3
      replace hg7:=iteT hg7
      cases hg7
      refine ⟨_,rfl,?_⟩
      refine ⟨Q0,?_⟩
      cases hv3
      exact wt Q5 J3 rfl
     refine ⟨_,rfl,_,⟨_,rfl,rfl⟩,_,rfl,_,⟨_,rfl,rfl⟩,_,rfl,?_⟩
     cases hg5
     refine ⟨_,rfl,?_⟩
     refine ⟨_,rfl,?_⟩
     obtain ⟨c3,hg8,hv3⟩:=bindS hv3
     refine Br.itf hg8 (fun hb hg8=>?_) fun hb hg8=>?_
     ·cases hg8
      refine ⟨_,rfl,?_⟩
      refine ⟨_,rfl,?_⟩
      obtain ⟨c5,hg9,hv3⟩:=bindS hv3
      replace hg9:=iteT hg9
      cases hg9
      refine ⟨_,rfl,?_⟩
      refine ⟨Q0,?_⟩
      cases hv3
      exact wt Q5 J3 rfl
     obtain ⟨x3,hx3,hg8⟩:=bindS hg8
     refine ⟨_,⟨_,rfl,rfl⟩,_,rfl,_,⟨_,rfl,rfl⟩,_,⟨_,.of_pure (w_ref07N20 hx3) (LeL.refl _),rfl⟩,_,rfl,?_⟩
     cases hg8
     refine ⟨_,rfl,?_⟩
     refine ⟨_,rfl,?_⟩
     obtain ⟨c5,hg10,hv3⟩:=bindS hv3
     refine Br.itf hg10 (fun hb hg10=>?_) fun hb hg10=>?_
     ·cases hg10
      refine ⟨_,rfl,?_⟩
      refine ⟨Q0,?_⟩
      cases hv3
      exact wt Q5 J3 rfl
     refine ⟨_,rfl,_,rfl,_,rfl,?_⟩
     obtain ⟨c4,hg11,hg10⟩:=bindS hg10
     refine Br.ite hg11 (fun hb hg11=>?_) fun hb hg11=>?_
     ·obtain ⟨hc1,hg11⟩:=chk_some hg11
      obtain ⟨x4,hx4,hg11⟩:=bindS hg11
      refine ⟨_,rfl,_,⟨_,rfl,rfl⟩,_,rfl,_,Or.inl ⟨hc1,rfl⟩,_,⟨_,idx_nat hx4,_,idx_row hx4,rfl⟩,_,rfl,_,⟨_,rfl,rfl⟩,_,rfl,_,⟨_,rfl,rfl⟩,_,⟨_,str_geq _ _,rfl⟩,?_⟩
      cases hg11
      refine ⟨_,rfl,?_⟩
      cases hg10
      refine ⟨_,rfl,?_⟩
      refine ⟨Q0,?_⟩
      cases hv3
      exact wt Q5 J3 rfl
     cases hg11
     refine ⟨_,rfl,?_⟩
     cases hg10
     refine ⟨_,rfl,?_⟩
     refine ⟨Q0,?_⟩
     cases hv3
     exact wt Q5 J3 rfl
    refine cn 62 (v3) rfl hB1 (fun hb hB1=>?_) fun hb hB1=>?_
    ·refine sg ?_
     refine wE [(4,vb false)] Q1 ?_
     refine rt ?_
     have hB1:=out_ret hB1 hy1
     cases hB1
     exact Fz.v
    refine sk ?_
    refine sg ?_
    refine wT [(2,.b 2 0),(3,.b 3 0),(5,vi s1),(6,.b 6 0),(7,vi (0))] [(2,.box [.s (mI p_t.Nodes),vi p_t.Next,vi p_t.Cookie]),(3,.box [vi p_n.Ino,vi p_n.Kind,vi p_n.Links,.s (mD p_n.Data),.s (mC p_n.Ents),vi p_n.Up]),(6,.box [vs x1.Name,vi x1.Ino,vi x1.Cookie])] Q5 J3 rfl ?_
    refine bl ?_
    refine Ok.loop (fun (s2:Int)=>⟨Cat.tab [(2,.b 2 0),(3,.b 3 0),(5,vi s1),(6,.b 6 0),(7,vi s2)],[(2,.box [.s (mI p_t.Nodes),vi p_t.Next,vi p_t.Cookie]),(3,.box [vi p_n.Ino,vi p_n.Kind,vi p_n.Links,.s (mD p_n.Data),.s (mC p_n.Ents),vi p_n.Up]),(6,.box [vs x1.Name,vi x1.Ino,vi x1.Cookie])]⟩) (ref07N33 s1 p_n x1) (s0:=0) hB1 (wt Q5 ⟨⟨_,rfl,.refl _⟩,⟨_,rfl,.refl _⟩,⟨_,rfl,.refl _⟩,Q0⟩ rfl) ?_
    intro s2 y2 hB2 hy2
    unfold ref07N33 at hB2
    refine sq ?_
    refine sg ?_
    refine wT [(2,.b 2 0),(3,.b 3 0),(5,vi s1),(6,.b 6 0),(7,vi s2),(65,vb (decide (s2 < s1)))] [(2,.box [.s (mI p_t.Nodes),vi p_t.Next,vi p_t.Cookie]),(3,.box [vi p_n.Ino,vi p_n.Kind,vi p_n.Links,.s (mD p_n.Data),.s (mC p_n.Ents),vi p_n.Up]),(6,.box [vs x1.Name,vi x1.Ino,vi x1.Cookie])] Q6 J3 rfl ?_
    refine cn 65 (decide (s2 < s1)) rfl hB2 (fun hb hB2=>?_) fun hb hB2=>?_
    ·refine sk ?_
     refine sq ?_
     refine bl ?_
     refine sq ?_
     refine Ok.draw (m:=9) (MD:=⟨[]⟩) (CH:=⟨[]⟩) Tryz.tok Tryz.mixed (by kernel_rfl) ?_
     obtain ⟨x5,hx5,hB2⟩:=bindS hB2
     refine ⟨_,rfl,_,⟨_,rfl,rfl⟩,_,rfl,_,⟨_,idx_nat hx5,_,idx_row hx5,rfl⟩,_,rfl,_,⟨_,rfl,rfl⟩,_,rfl,_,⟨_,rfl,rfl⟩,_,rfl,Q0,?_⟩
     refine wT [(2,.b 2 0),(3,.b 3 0),(5,vi s1),(6,.b 6 0),(7,vi s2),(76,vb (x5.Cookie == x1.Cookie))] [(2,.box [.s (mI p_t.Nodes),vi p_t.Next,vi p_t.Cookie]),(3,.box [vi p_n.Ino,vi p_n.Kind,vi p_n.Links,.s (mD p_n.Data),.s (mC p_n.Ents),vi p_n.Up]),(6,.box [vs x1.Name,vi x1.Ino,vi x1.Cookie])] Q6 J3 rfl ?_
     refine cn 76 (x5.Cookie == x1.Cookie) rfl hB2 (fun hb hB2=>?_) fun hb hB2=>?_
     ·refine sg ?_
      refine wE [(4,vb false)] Q1 ?_
      refine rt ?_
      have hB2:=out_ret hB2 hy2
      have hB2:=out_ret hB2 hy1
      cases hB2
      exact Fz.v
     refine sk ?_
     refine rg ?_
     obtain ⟨hc2,hB2⟩:=chk_some hB2
     refine (Or.inl ⟨hc2,?_⟩)
     exact ⟨_,sj hB2,wt Q5 J3 rfl⟩
    refine xt ?_
    have hB2:=out_ret hB2 hy2
    exact ⟨_,hB2,wt Q3 ⟨⟨_,rfl,.refl _⟩,⟨_,rfl,.refl _⟩,Q0⟩ rfl⟩
   intro v2 hB1
   unfold ref07N35 at hB1
   refine rg ?_
   obtain ⟨hc3,hB1⟩:=chk_some hB1
   refine (Or.inl ⟨hc3,?_⟩)
   exact ⟨_,sj hB1,wt Q3 J2 rfl⟩
  refine xt ?_
  have hB1:=out_ret hB1 hy1
  exact ⟨_,hB1,wt Q0 Q0 rfl⟩
 intro v1 h
 unfold ref07N34 at h
 refine sg ?_
 refine wE [(4,vb true)] Q1 ?_
 refine rt ?_
 cases h
 exact Fz.v
theorem w_ref07N19 {p_t} {p_n} {r} (h:ref07_node p_t p_n=some r):Pure Tryz.prog 40 [(.a [(.s (mI p_t.Nodes)),(vi p_t.Next),(vi p_t.Cookie)]),(.a [(vi p_n.Ino),(vi p_n.Kind),(vi p_n.Links),(.s (mD p_n.Data)),(.s (mC p_n.Ents)),(vi p_n.Up)])] (vb r):=by
 refine po Tryz.tok 81 Tryz.func40 (by kernel_rfl) rfl rfl rfl ?_
 unfold ref07_node at h
 refine wE [(0,.a [.s (mI p_t.Nodes),vi p_t.Next,vi p_t.Cookie]),(1,.a [vi p_n.Ino,vi p_n.Kind,vi p_n.Links,.s (mD p_n.Data),.s (mC p_n.Ents),vi p_n.Up])] Q2 ?_
 refine sg ?_
 refine wT [(2,.b 2 0),(3,.b 3 0)] [(2,.box [.s (mI p_t.Nodes),vi p_t.Next,vi p_t.Cookie]),(3,.box [vi p_n.Ino,vi p_n.Kind,vi p_n.Links,.s (mD p_n.Data),.s (mC p_n.Ents),vi p_n.Up])] Q2 J2 rfl ?_
 refine sg ?_
 obtain ⟨x1,hx1,h⟩:=bindS h
 refine ⟨_,rfl,_,rfl,_,rfl,?_⟩
 refine CallOk.call (w_ref07N18 hx1) (LeL.refl _) ?_
 refine wT [(2,.b 2 0),(3,.b 3 0),(5,vi x1.1),(6,vi x1.2)] [(2,.box [.s (mI p_t.Nodes),vi p_t.Next,vi p_t.Cookie]),(3,.box [vi p_n.Ino,vi p_n.Kind,vi p_n.Links,.s (mD p_n.Data),.s (mC p_n.Ents),vi p_n.Up])] Q4 J2 rfl ?_
 refine sq ?_
 refine sg ?_
 refine ⟨_,rfl,?_⟩
 refine wT [(2,.b 2 0),(3,.b 3 0),(5,vi x1.1),(6,vi x1.2),(18,vb (p_n.Kind == 1))] [(2,.box [.s (mI p_t.Nodes),vi p_t.Next,vi p_t.Cookie]),(3,.box [vi p_n.Ino,vi p_n.Kind,vi p_n.Links,.s (mD p_n.Data),.s (mC p_n.Ents),vi p_n.Up])] Q5 J2 rfl ?_
 refine cn 18 (p_n.Kind == 1) rfl h (fun hb h=>?_) fun hb h=>?_
 ·obtain ⟨v1,hv1,h⟩:=bindS h
  refine Ok.seqw ⟨Cat.tab [(4,vb v1)],[]⟩ ?_ ?_
  ·refine rg ?_
   refine ⟨_,rfl,_,List.length_map _,fun _=>?_⟩
   obtain ⟨c1,hg1,hv1⟩:=bindS hv1
   refine Br.ite hg1 (fun hb hg1=>?_) fun hb hg1=>?_
   ·refine ⟨_,rfl,?_⟩
    cases hg1
    obtain ⟨c2,hg2,hv1⟩:=bindS hv1
    refine Br.ite hg2 (fun hb hg2=>?_) fun hb hg2=>?_
    ·refine ⟨_,rfl,_,List.length_map _,fun _=>?_⟩
     cases hg2
     obtain ⟨c3,hg3,hv1⟩:=bindS hv1
     refine Br.ite hg3 (fun hb hg3=>?_) fun hb hg3=>?_
     ·refine ⟨_,rfl,?_⟩
      cases hg3
      cases hv1
      exact wt Q1 Q0 rfl
     cases hg3
     cases hv1
     exact wt Q1 Q0 rfl
    cases hg2
    obtain ⟨c3,hg4,hv1⟩:=bindS hv1
    replace hg4:=iteF hg4
    cases hg4
    cases hv1
    exact wt Q1 Q0 rfl
   cases hg1
   obtain ⟨c2,hg5,hv1⟩:=bindS hv1
   replace hg5:=iteF hg5
   cases hg5
   obtain ⟨c3,hg6,hv1⟩:=bindS hv1
   replace hg6:=iteF hg6
   cases hg6
   cases hv1
   exact wt Q1 Q0 rfl
  refine rt ?_
  cases h
  exact Fz.v
 refine sk ?_
 refine sq ?_
 obtain ⟨v2,hv2,h⟩:=bindS h
 refine Ok.seqw ⟨Cat.tab [(3,.b 3 0),(5,vi x1.1),(6,vi x1.2),(54,vb v2)],[(3,.box [vi p_n.Ino,vi p_n.Kind,vi p_n.Links,.s (mD p_n.Data),.s (mC p_n.Ents),vi p_n.Up])]⟩ ?_ ?_
 ·refine rg ?_
  refine ⟨_,rfl,?_⟩
  obtain ⟨c4,hg7,hv2⟩:=bindS hv2
  refine Br.itf hg7 (fun hb hg7=>?_) fun hb hg7=>?_
  ·cases hg7
   obtain ⟨c5,hg8,hv2⟩:=bindS hv2
   replace hg8:=iteT hg8
   cases hg8
   cases hv2
   exact wt Q4 J1 rfl
  refine ⟨_,rfl,_,List.length_map _,fun _=>?_⟩
  cases hg7
  obtain ⟨c5,hg9,hv2⟩:=bindS hv2
  refine Br.itf hg9 (fun hb hg9=>?_) fun hb hg9=>?_
  ·cases hg9
   cases hv2
   exact wt Q4 J1 rfl
  obtain ⟨x2,hx2,hg9⟩:=bindS hg9
  refine ⟨_,rfl,_,rfl,?_⟩
  refine CallOk.call (w_ref07N13 hx2) (LeL.refl _) ?_
  cases hg9
  cases hv2
  exact wt Q4 J1 rfl
 refine cn 54 (v2) rfl h (fun hb h=>?_) fun hb h=>?_
 ·refine sg ?_
  refine wE [(4,vb false)] Q1 ?_
  refine rt ?_
  cases h
  exact Fz.v
 refine sk ?_
 refine sq ?_
 refine sg ?_
 refine ⟨_,rfl,?_⟩
 refine wT [(3,.b 3 0),(5,vi x1.1),(6,vi x1.2),(57,vb (p_n.Ino == 1))] [(3,.box [vi p_n.Ino,vi p_n.Kind,vi p_n.Links,.s (mD p_n.Data),.s (mC p_n.Ents),vi p_n.Up])] Q4 J1 rfl ?_
 refine cn 57 (p_n.Ino == 1) rfl h (fun hb h=>?_) fun hb h=>?_
 ·obtain ⟨v3,hv3,h⟩:=bindS h
  refine Ok.seqw ⟨Cat.tab [(4,vb v3)],[]⟩ ?_ ?_
  ·refine rg ?_
   refine ⟨_,rfl,?_⟩
   obtain ⟨c6,hg10,hv3⟩:=bindS hv3
   refine Br.ite hg10 (fun hb hg10=>?_) fun hb hg10=>?_
   ·refine ⟨_,rfl,?_⟩
    cases hg10
    obtain ⟨c7,hg11,hv3⟩:=bindS hv3
    refine Br.ite hg11 (fun hb hg11=>?_) fun hb hg11=>?_
    ·cases hg11
     cases hv3
     exact wt Q1 Q0 rfl
    cases hg11
    cases hv3
    exact wt Q1 Q0 rfl
   cases hg10
   obtain ⟨c7,hg12,hv3⟩:=bindS hv3
   replace hg12:=iteF hg12
   cases hg12
   cases hv3
   exact wt Q1 Q0 rfl
  refine rt ?_
  cases h
  exact Fz.v
 refine sk ?_
 obtain ⟨v4,hv4,h⟩:=bindS h
 refine Ok.seqw ⟨Cat.tab [(4,vb v4)],[]⟩ ?_ ?_
 ·refine rg ?_
  obtain ⟨c8,hg13,hv4⟩:=bindS hv4
  refine Br.ite hg13 (fun hb hg13=>?_) fun hb hg13=>?_
  ·cases hg13
   obtain ⟨c9,hg14,hv4⟩:=bindS hv4
   refine Br.ite hg14 (fun hb hg14=>?_) fun hb hg14=>?_
   ·refine ⟨_,rfl,?_⟩
    cases hg14
    cases hv4
    exact wt Q1 Q0 rfl
   cases hg14
   cases hv4
   exact wt Q1 Q0 rfl
  cases hg13
  obtain ⟨c9,hg15,hv4⟩:=bindS hv4
  replace hg15:=iteF hg15
  cases hg15
  cases hv4
  exact wt Q1 Q0 rfl
 refine rt ?_
 cases h
 exact Fz.v
set_option maxHeartbeats 4000000 in
theorem w_ref07N4 {p_t} {r} (h:ref07_Right p_t=some r):Pure Tryz.prog 15 [(.a [(.s (mI p_t.Nodes)),(vi p_t.Next),(vi p_t.Cookie)])] (vb r):=by
 refine po Tryz.tok 132 Tryz.func15 (by kernel_rfl) rfl rfl rfl ?_
 unfold ref07_Right at h
 refine wE [(0,.a [.s (mI p_t.Nodes),vi p_t.Next,vi p_t.Cookie])] Q1 ?_
 refine sg ?_
 refine wT [(1,.b 1 0)] [(1,.box [.s (mI p_t.Nodes),vi p_t.Next,vi p_t.Cookie])] Q1 J1 rfl ?_
 refine sq ?_
 obtain ⟨v1,hv1,h⟩:=bindS h
 refine Ok.seqw ⟨Cat.tab [(1,.b 1 0),(48,vb v1)],[(1,.box [.s (mI p_t.Nodes),vi p_t.Next,vi p_t.Cookie])]⟩ ?_ ?_
 ·refine rg ?_
  refine ⟨_,rfl,_,List.length_map _,fun _=>?_⟩
  obtain ⟨c1,hg1,hv1⟩:=bindS hv1
  refine Br.itf hg1 (fun hb hg1=>?_) fun hb hg1=>?_
  ·cases hg1
   obtain ⟨c2,hg2,hv1⟩:=bindS hv1
   replace hg2:=iteT hg2
   cases hg2
   obtain ⟨c3,hg3,hv1⟩:=bindS hv1
   replace hg3:=iteT hg3
   cases hg3
   obtain ⟨c4,hg4,hv1⟩:=bindS hv1
   replace hg4:=iteT hg4
   cases hg4
   obtain ⟨c5,hg5,hv1⟩:=bindS hv1
   replace hg5:=iteT hg5
   cases hg5
   obtain ⟨c6,hg6,hv1⟩:=bindS hv1
   replace hg6:=iteT hg6
   cases hg6
   cases hv1
   exact wt Q2 J1 rfl
  refine ⟨_,rfl,_,List.length_map _,fun _=>?_⟩
  cases hg1
  obtain ⟨c2,hg7,hv1⟩:=bindS hv1
  refine Br.itf hg7 (fun hb hg7=>?_) fun hb hg7=>?_
  ·cases hg7
   obtain ⟨c3,hg8,hv1⟩:=bindS hv1
   replace hg8:=iteT hg8
   cases hg8
   obtain ⟨c4,hg9,hv1⟩:=bindS hv1
   replace hg9:=iteT hg9
   cases hg9
   obtain ⟨c5,hg10,hv1⟩:=bindS hv1
   replace hg10:=iteT hg10
   cases hg10
   obtain ⟨c6,hg11,hv1⟩:=bindS hv1
   replace hg11:=iteT hg11
   cases hg11
   cases hv1
   exact wt Q2 J1 rfl
  obtain ⟨x1,hx1,hg7⟩:=bindS hg7
  refine ⟨_,rfl,_,idx_nat hx1,_,idx_row hx1,_,rfl,?_⟩
  cases hg7
  obtain ⟨c3,hg12,hv1⟩:=bindS hv1
  refine Br.itf hg12 (fun hb hg12=>?_) fun hb hg12=>?_
  ·cases hg12
   obtain ⟨c4,hg13,hv1⟩:=bindS hv1
   replace hg13:=iteT hg13
   cases hg13
   obtain ⟨c5,hg14,hv1⟩:=bindS hv1
   replace hg14:=iteT hg14
   cases hg14
   obtain ⟨c6,hg15,hv1⟩:=bindS hv1
   replace hg15:=iteT hg15
   cases hg15
   cases hv1
   exact wt Q2 J1 rfl
  obtain ⟨x2,hx2,hg12⟩:=bindS hg12
  refine ⟨_,rfl,_,idx_nat hx2,_,idx_row hx2,_,rfl,?_⟩
  cases hg12
  obtain ⟨c4,hg16,hv1⟩:=bindS hv1
  refine Br.itf hg16 (fun hb hg16=>?_) fun hb hg16=>?_
  ·cases hg16
   obtain ⟨c5,hg17,hv1⟩:=bindS hv1
   replace hg17:=iteT hg17
   cases hg17
   obtain ⟨c6,hg18,hv1⟩:=bindS hv1
   replace hg18:=iteT hg18
   cases hg18
   cases hv1
   exact wt Q2 J1 rfl
  refine ⟨_,rfl,?_⟩
  cases hg16
  obtain ⟨c5,hg19,hv1⟩:=bindS hv1
  refine Br.itf hg19 (fun hb hg19=>?_) fun hb hg19=>?_
  ·cases hg19
   obtain ⟨c6,hg20,hv1⟩:=bindS hv1
   replace hg20:=iteT hg20
   cases hg20
   cases hv1
   exact wt Q2 J1 rfl
  refine ⟨_,rfl,?_⟩
  cases hg19
  obtain ⟨c6,hg21,hv1⟩:=bindS hv1
  refine Br.itf hg21 (fun hb hg21=>?_) fun hb hg21=>?_
  ·cases hg21
   cases hv1
   exact wt Q2 J1 rfl
  refine ⟨_,rfl,?_⟩
  cases hg21
  cases hv1
  exact wt Q2 J1 rfl
 refine cn 48 (v1) rfl h (fun hb h=>?_) fun hb h=>?_
 ·refine sg ?_
  refine wE [(2,vb false)] Q1 ?_
  refine rt ?_
  cases h
  exact Fz.v
 refine sk ?_
 refine Ok.seqj (fun v2=>⟨Cat.tab [(1,.b 1 0)],[(1,.box [.s (mI p_t.Nodes),vi p_t.Next,vi p_t.Cookie])]⟩) (fun v2=>ref07N6 p_t v2=some r) ?_ ?_
 ·refine sg ?_
  refine wT [(1,.b 1 0),(3,vi (0))] [(1,.box [.s (mI p_t.Nodes),vi p_t.Next,vi p_t.Cookie])] Q2 J1 rfl ?_
  refine bl ?_
  refine Ok.loop (fun (s1:Int)=>⟨Cat.tab [(1,.b 1 0),(3,vi s1)],[(1,.box [.s (mI p_t.Nodes),vi p_t.Next,vi p_t.Cookie])]⟩) (ref07N4 p_t) (s0:=0) h (wt Q2 ⟨⟨_,rfl,.refl _⟩,Q0⟩ rfl) ?_
  intro s1 y1 hB1 hy1
  unfold ref07N4 at hB1
  refine sq ?_
  refine sg ?_
  refine ⟨_,rfl,_,List.length_map _,fun _=>?_⟩
  refine wT [(1,.b 1 0),(3,vi s1),(53,vb (decide (s1 < (p_t.Nodes.length:Int))))] [(1,.box [.s (mI p_t.Nodes),vi p_t.Next,vi p_t.Cookie])] Q3 J1 rfl ?_
  refine cn 53 (decide (s1 < (p_t.Nodes.length:Int))) rfl hB1 (fun hb hB1=>?_) fun hb hB1=>?_
  ·refine sk ?_
   refine sq ?_
   refine bl ?_
   refine sg ?_
   obtain ⟨x3,hx3,hB1⟩:=bindS hB1
   refine ⟨_,rfl,_,idx_nat hx3,_,idx_row hx3,_,rfl,_,rfl,?_⟩
   refine wT [(1,.b 1 0),(3,vi s1),(4,.b 4 0)] [(1,.box [.s (mI p_t.Nodes),vi p_t.Next,vi p_t.Cookie]),(4,.box [vi x3.Ino,vi x3.Kind,vi x3.Links,.s (mD x3.Data),.s (mC x3.Ents),vi x3.Up])] Q3 J2 rfl ?_
   obtain ⟨v3,hv3,hB1⟩:=bindS hB1
   refine Ok.seqw ⟨Cat.tab [(1,.b 1 0),(3,vi s1),(93,vb v3)],[(1,.box [.s (mI p_t.Nodes),vi p_t.Next,vi p_t.Cookie])]⟩ ?_ ?_
   ·refine Ok.draw (m:=33) (MD:=⟨[]⟩) (CH:=⟨[]⟩) Tryz.tok Tryz.mixed (by kernel_rfl) ?_
    refine ⟨_,rfl,_,rfl,_,rfl,?_⟩
    obtain ⟨c7,hg22,hv3⟩:=bindS hv3
    refine Br.ite hg22 (fun hb hg22=>?_) fun hb hg22=>?_
    ·obtain ⟨hc1,hg22⟩:=chk_some hg22
     obtain ⟨x4,hx4,hg22⟩:=bindS hg22
     refine ⟨_,rfl,_,⟨_,rfl,rfl⟩,_,rfl,_,⟨_,rfl,rfl⟩,_,rfl,_,Or.inl ⟨hc1,rfl⟩,_,⟨_,idx_nat hx4,_,idx_row hx4,rfl⟩,_,rfl,_,⟨_,rfl,rfl⟩,_,rfl,?_⟩
     cases hg22
     refine ⟨_,rfl,?_⟩
     refine ⟨_,rfl,?_⟩
     obtain ⟨c8,hg23,hv3⟩:=bindS hv3
     refine Br.itf hg23 (fun hb hg23=>?_) fun hb hg23=>?_
     ·cases hg23
      refine ⟨_,rfl,?_⟩
      refine ⟨_,rfl,?_⟩
      obtain ⟨c9,hg24,hv3⟩:=bindS hv3
      replace hg24:=iteT hg24
      cases hg24
      refine ⟨_,rfl,?_⟩
      refine ⟨_,rfl,?_⟩
      obtain ⟨c10,hg25,hv3⟩:=bindS hv3
      replace hg25:=iteT hg25
      cases hg25
      refine ⟨_,rfl,?_⟩
      refine ⟨Q0,?_⟩
      cases hv3
      exact wt Q3 J1 rfl
     refine ⟨_,rfl,_,⟨_,rfl,rfl⟩,_,rfl,_,⟨_,rfl,rfl⟩,_,rfl,?_⟩
     cases hg23
     refine ⟨_,rfl,?_⟩
     refine ⟨_,rfl,?_⟩
     obtain ⟨c9,hg26,hv3⟩:=bindS hv3
     refine Br.itf hg26 (fun hb hg26=>?_) fun hb hg26=>?_
     ·cases hg26
      refine ⟨_,rfl,?_⟩
      refine ⟨_,rfl,?_⟩
      obtain ⟨c10,hg27,hv3⟩:=bindS hv3
      replace hg27:=iteT hg27
      cases hg27
      refine ⟨_,rfl,?_⟩
      refine ⟨Q0,?_⟩
      cases hv3
      exact wt Q3 J1 rfl
     refine ⟨_,rfl,_,⟨_,rfl,rfl⟩,_,⟨_,List.length_map _,fun _=>rfl⟩,_,rfl,?_⟩
     cases hg26
     refine ⟨_,rfl,?_⟩
     refine ⟨_,rfl,?_⟩
     obtain ⟨c10,hg28,hv3⟩:=bindS hv3
     refine Br.itf hg28 (fun hb hg28=>?_) fun hb hg28=>?_
     ·cases hg28
      refine ⟨_,rfl,?_⟩
      refine ⟨Q0,?_⟩
      cases hv3
      exact wt Q3 J1 rfl
     obtain ⟨x5,hx5,hg28⟩:=bindS hg28
     refine ⟨_,⟨_,rfl,rfl⟩,_,⟨_,rfl,rfl⟩,_,⟨_,.of_pure (w_ref07N19 hx5) (LeL.refl _),rfl⟩,_,rfl,?_⟩
     cases hg28
     refine ⟨_,rfl,?_⟩
     refine ⟨Q0,?_⟩
     cases hv3
     exact wt Q3 J1 rfl
    cases hg22
    refine ⟨_,rfl,?_⟩
    refine ⟨_,rfl,?_⟩
    obtain ⟨c8,hg29,hv3⟩:=bindS hv3
    replace hg29:=iteF hg29
    refine ⟨_,rfl,_,⟨_,rfl,rfl⟩,_,rfl,_,⟨_,rfl,rfl⟩,_,rfl,?_⟩
    cases hg29
    refine ⟨_,rfl,?_⟩
    refine ⟨_,rfl,?_⟩
    obtain ⟨c9,hg30,hv3⟩:=bindS hv3
    refine Br.itf hg30 (fun hb hg30=>?_) fun hb hg30=>?_
    ·cases hg30
     refine ⟨_,rfl,?_⟩
     refine ⟨_,rfl,?_⟩
     obtain ⟨c10,hg31,hv3⟩:=bindS hv3
     replace hg31:=iteT hg31
     cases hg31
     refine ⟨_,rfl,?_⟩
     refine ⟨Q0,?_⟩
     cases hv3
     exact wt Q3 J1 rfl
    refine ⟨_,rfl,_,⟨_,rfl,rfl⟩,_,⟨_,List.length_map _,fun _=>rfl⟩,_,rfl,?_⟩
    cases hg30
    refine ⟨_,rfl,?_⟩
    refine ⟨_,rfl,?_⟩
    obtain ⟨c10,hg32,hv3⟩:=bindS hv3
    refine Br.itf hg32 (fun hb hg32=>?_) fun hb hg32=>?_
    ·cases hg32
     refine ⟨_,rfl,?_⟩
     refine ⟨Q0,?_⟩
     cases hv3
     exact wt Q3 J1 rfl
    obtain ⟨x5,hx5,hg32⟩:=bindS hg32
    refine ⟨_,⟨_,rfl,rfl⟩,_,⟨_,rfl,rfl⟩,_,⟨_,.of_pure (w_ref07N19 hx5) (LeL.refl _),rfl⟩,_,rfl,?_⟩
    cases hg32
    refine ⟨_,rfl,?_⟩
    refine ⟨Q0,?_⟩
    cases hv3
    exact wt Q3 J1 rfl
   refine cn 93 (v3) rfl hB1 (fun hb hB1=>?_) fun hb hB1=>?_
   ·refine sg ?_
    refine wE [(2,vb false)] Q1 ?_
    refine rt ?_
    have hB1:=out_ret hB1 hy1
    cases hB1
    exact Fz.v
   refine sk ?_
   refine rg ?_
   obtain ⟨hc2,hB1⟩:=chk_some hB1
   refine (Or.inl ⟨hc2,?_⟩)
   exact ⟨_,sj hB1,wt Q2 J1 rfl⟩
  refine xt ?_
  have hB1:=out_ret hB1 hy1
  exact ⟨_,hB1,wt Q1 ⟨⟨_,rfl,.refl _⟩,Q0⟩ rfl⟩
 intro v2 h
 unfold ref07N6 at h
 refine Ok.seqj (fun v4=>⟨Cat.tab [],[]⟩) (fun v4=>ref07N7 v4=some r) ?_ ?_
 ·refine sg ?_
  refine wT [(1,.b 1 0),(5,vi (0))] [(1,.box [.s (mI p_t.Nodes),vi p_t.Next,vi p_t.Cookie])] Q2 J1 rfl ?_
  refine bl ?_
  refine Ok.loop (fun (s2:Int)=>⟨Cat.tab [(1,.b 1 0),(5,vi s2)],[(1,.box [.s (mI p_t.Nodes),vi p_t.Next,vi p_t.Cookie])]⟩) (ref07N5 p_t) (s0:=0) h (wt Q2 ⟨⟨_,rfl,.refl _⟩,Q0⟩ rfl) ?_
  intro s2 y2 hB2 hy2
  unfold ref07N5 at hB2
  refine sq ?_
  refine sg ?_
  refine ⟨_,rfl,_,List.length_map _,fun _=>?_⟩
  refine wT [(1,.b 1 0),(5,vi s2),(98,vb (decide (s2 < (p_t.Nodes.length:Int))))] [(1,.box [.s (mI p_t.Nodes),vi p_t.Next,vi p_t.Cookie])] Q3 J1 rfl ?_
  refine cn 98 (decide (s2 < (p_t.Nodes.length:Int))) rfl hB2 (fun hb hB2=>?_) fun hb hB2=>?_
  ·refine sk ?_
   refine Ok.seqj (fun v5=>⟨Cat.tab [(1,.b 1 0),(5,vi s2)],[(1,.box [.s (mI p_t.Nodes),vi p_t.Next,vi p_t.Cookie])]⟩) (fun v5=>ref07N8 s2 v5=some y2) ?_ ?_
   ·refine bl ?_
    refine sg ?_
    obtain ⟨x6,hx6,hB2⟩:=bindS hB2
    refine ⟨_,rfl,_,idx_nat hx6,_,idx_row hx6,_,rfl,_,rfl,?_⟩
    refine wT [(1,.b 1 0),(5,vi s2),(6,.b 6 0)] [(1,.box [.s (mI p_t.Nodes),vi p_t.Next,vi p_t.Cookie]),(6,.box [vi x6.Ino,vi x6.Kind,vi x6.Links,.s (mD x6.Data),.s (mC x6.Ents),vi x6.Up])] Q3 J2 rfl ?_
    refine sq ?_
    refine sg ?_
    refine ⟨_,rfl,?_⟩
    refine wT [(1,.b 1 0),(5,vi s2),(6,.b 6 0),(108,vb (x6.Kind != 2))] [(1,.box [.s (mI p_t.Nodes),vi p_t.Next,vi p_t.Cookie]),(6,.box [vi x6.Ino,vi x6.Kind,vi x6.Links,.s (mD x6.Data),.s (mC x6.Ents),vi x6.Up])] Q4 J2 rfl ?_
    refine cn 108 (x6.Kind != 2) rfl hB2 (fun hb hB2=>?_) fun hb hB2=>?_
    ·refine xt ?_
     exact ⟨_,hB2,wt Q2 ⟨⟨_,rfl,.refl _⟩,Q0⟩ rfl⟩
    refine sk ?_
    refine sg ?_
    obtain ⟨x7,hx7,hB2⟩:=bindS hB2
    refine ⟨_,rfl,_,rfl,?_⟩
    refine CallOk.call (w_ref07N10 hx7) (LeL.refl _) ?_
    refine wT [(1,.b 1 0),(5,vi s2),(6,.b 6 0),(7,vi x7)] [(1,.box [.s (mI p_t.Nodes),vi p_t.Next,vi p_t.Cookie]),(6,.box [vi x6.Ino,vi x6.Kind,vi x6.Links,.s (mD x6.Data),.s (mC x6.Ents),vi x6.Up])] Q4 J2 rfl ?_
    obtain ⟨v6,hv6,hB2⟩:=bindS hB2
    refine Ok.seqw ⟨Cat.tab [(1,.b 1 0),(5,vi s2),(131,vb v6)],[(1,.box [.s (mI p_t.Nodes),vi p_t.Next,vi p_t.Cookie])]⟩ ?_ ?_
    ·refine rg ?_
     obtain ⟨x8,hx8,hv6⟩:=bindS hv6
     refine ⟨_,rfl,_,rfl,?_⟩
     refine CallOk.call (w_ref07N1 hx8) (LeL.refl _) ?_
     obtain ⟨c11,hg33,hv6⟩:=bindS hv6
     refine Br.itf hg33 (fun hb hg33=>?_) fun hb hg33=>?_
     ·cases hg33
      obtain ⟨c13,hg34,hv6⟩:=bindS hv6
      replace hg34:=iteT hg34
      cases hg34
      cases hv6
      exact wt Q3 J1 rfl
     cases hg33
     obtain ⟨c13,hg35,hv6⟩:=bindS hv6
     refine Br.itf hg35 (fun hb hg35=>?_) fun hb hg35=>?_
     ·cases hg35
      cases hv6
      exact wt Q3 J1 rfl
     obtain ⟨c12,hg36,hg35⟩:=bindS hg35
     refine Br.ite hg36 (fun hb hg36=>?_) fun hb hg36=>?_
     ·refine ⟨_,rfl,_,List.length_map _,fun _=>?_⟩
      cases hg36
      cases hg35
      cases hv6
      exact wt Q3 J1 rfl
     cases hg36
     cases hg35
     cases hv6
     exact wt Q3 J1 rfl
    refine cn 131 (v6) rfl hB2 (fun hb hB2=>?_) fun hb hB2=>?_
    ·refine sg ?_
     refine wE [(2,vb false)] Q1 ?_
     refine rt ?_
     have hB2:=out_ret hB2 hy2
     cases hB2
     exact Fz.v
    refine sk ?_
    exact ⟨_,hB2,wt Q2 ⟨⟨_,rfl,.refl _⟩,Q0⟩ rfl⟩
   intro v5 hB2
   unfold ref07N8 at hB2
   refine rg ?_
   obtain ⟨hc3,hB2⟩:=chk_some hB2
   refine (Or.inl ⟨hc3,?_⟩)
   exact ⟨_,sj hB2,wt Q2 J1 rfl⟩
  refine xt ?_
  have hB2:=out_ret hB2 hy2
  exact ⟨_,hB2,wt Q0 Q0 rfl⟩
 intro v4 h
 unfold ref07N7 at h
 refine sg ?_
 refine wE [(2,vb true)] Q1 ?_
 refine rt ?_
 cases h
 exact Fz.v
set_option maxHeartbeats 4000000 in
theorem w_law10N4 {p_l} {p_more} {r} (h:law10N6 p_l p_more=some r):Pure Tryz.prog 4 [(.s (mE p_l)),(.s (mE p_more))] (vb r):=by
 refine po Tryz.tok 148 Tryz.func4 (by kernel_rfl) rfl rfl rfl ?_
 unfold law10N6 at h
 refine wE [(0,.s (mE p_l)),(1,.s (mE p_more))] Q2 ?_
 refine sg ?_
 refine wE [(0,.s (mE p_l)),(1,.s (mE p_more))] Q2 ?_
 refine sg ?_
 obtain ⟨x1,hx1,h⟩:=bindS h
 refine CallOk.call (w_law10N5 hx1) (LeL.refl _) ?_
 refine wE [(0,.s (mE p_l)),(1,.s (mE p_more)),(5,vb x1)] Q3 ?_
 refine sq ?_
 obtain ⟨v1,hv1,h⟩:=bindS h
 refine Ok.seqw ⟨Cat.tab [(0,.s (mE p_l)),(1,.s (mE p_more)),(5,vb x1),(33,vb v1)],[]⟩ ?_ ?_
 ·refine rg ?_
  obtain ⟨x2,hx2,hv1⟩:=bindS hv1
  refine CallOk.call (w_law10N2 hx2) (LeL.refl _) ?_
  obtain ⟨c1,hg1,hv1⟩:=bindS hv1
  refine Br.itf hg1 (fun hb hg1=>?_) fun hb hg1=>?_
  ·cases hg1
   obtain ⟨c2,hg2,hv1⟩:=bindS hv1
   replace hg2:=iteT hg2
   cases hg2
   cases hv1
   exact wt Q4 Q0 rfl
  obtain ⟨x3,hx3,hg1⟩:=bindS hg1
  refine CallOk.call (w_law10N2 hx3) (LeL.refl _) ?_
  cases hg1
  obtain ⟨c2,hg3,hv1⟩:=bindS hv1
  refine Br.itf hg3 (fun hb hg3=>?_) fun hb hg3=>?_
  ·cases hg3
   cases hv1
   exact wt Q4 Q0 rfl
  refine ⟨_,List.length_map _,fun _=>?_⟩
  cases hg3
  cases hv1
  exact wt Q4 Q0 rfl
 refine cn 33 (v1) rfl h (fun hb h=>?_) fun hb h=>?_
 ·refine sg ?_
  refine wE [(4,vb x1)] Q1 ?_
  refine rt ?_
  cases h
  exact Fz.v
 refine sk ?_
 refine sg ?_
 obtain ⟨x4,hx4,h⟩:=bindS h
 refine CallOk.call (w_law10N3 hx4) (LeL.refl _) ?_
 refine ⟨_,rfl,?_⟩
 refine wT [(1,.s (mE p_more)),(5,vb x1),(6,.b 6 0)] [(6,.box [.s (mI x4.Now.Nodes),vi x4.Now.Next,vi x4.Now.Cookie,vi x4.Tick,.s (mB x4.Since),.s (mA x4.Pasts),.s (mU x4.Taken),vi x4.Next])] Q3 J1 rfl ?_
 refine sg ?_
 refine ⟨_,rfl,_,rfl,?_⟩
 refine wT [(1,.s (mE p_more)),(5,vb x1),(6,.b 6 0),(7,.b 7 0)] [(6,.box [.s (mI x4.Now.Nodes),vi x4.Now.Next,vi x4.Now.Cookie,vi x4.Tick,.s (mB x4.Since),.s (mA x4.Pasts),.s (mU x4.Taken),vi x4.Next]),(7,.box [.s (mI x4.Now.Nodes),vi x4.Now.Next,vi x4.Now.Cookie,vi x4.Tick,.s (mB x4.Since),.s (mA x4.Pasts),.s (mU x4.Taken),vi x4.Next])] Q4 J2 rfl ?_
 refine Ok.seqj (fun v2=>⟨Cat.tab [(5,vb x1),(6,.b 6 0),(7,.b 7 0)],[(6,.box [.s (mI x4.Now.Nodes),vi x4.Now.Next,vi x4.Now.Cookie,vi x4.Tick,.s (mB x4.Since),.s (mA x4.Pasts),.s (mU x4.Taken),vi x4.Next]),(7,.box [.s (mI v2.1),vi v2.2.1,vi v2.2.2.1,vi v2.2.2.2.1,.s (mB v2.2.2.2.2.1),.s (mA v2.2.2.2.2.2.1),.s (mU v2.2.2.2.2.2.2.1),vi v2.2.2.2.2.2.2.2])]⟩) (fun v2=>law10N10 x4 x1 v2=some r) ?_ ?_
 ·refine sg ?_
  refine wT [(1,.s (mE p_more)),(5,vb x1),(6,.b 6 0),(7,.b 7 0),(8,vi (0))] [(6,.box [.s (mI x4.Now.Nodes),vi x4.Now.Next,vi x4.Now.Cookie,vi x4.Tick,.s (mB x4.Since),.s (mA x4.Pasts),.s (mU x4.Taken),vi x4.Next]),(7,.box [.s (mI x4.Now.Nodes),vi x4.Now.Next,vi x4.Now.Cookie,vi x4.Tick,.s (mB x4.Since),.s (mA x4.Pasts),.s (mU x4.Taken),vi x4.Next])] Q5 J2 rfl ?_
  refine bl ?_
  refine Ok.loop (fun (s1:Int×(List api_Node)×Int×Int×Int×(List Int)×(List api_Past)×(List api_Shot)×Int)=>⟨Cat.tab [(1,.s (mE p_more)),(5,vb x1),(6,.b 6 0),(7,.b 7 0),(8,vi s1.1)],[(6,.box [.s (mI x4.Now.Nodes),vi x4.Now.Next,vi x4.Now.Cookie,vi x4.Tick,.s (mB x4.Since),.s (mA x4.Pasts),.s (mU x4.Taken),vi x4.Next]),(7,.box [.s (mI s1.2.1),vi s1.2.2.1,vi s1.2.2.2.1,vi s1.2.2.2.2.1,.s (mB s1.2.2.2.2.2.1),.s (mA s1.2.2.2.2.2.2.1),.s (mU s1.2.2.2.2.2.2.2.1),vi s1.2.2.2.2.2.2.2.2])]⟩) (law10N7 p_more x4 x1) (s0:=(0,x4.Now.Nodes,x4.Now.Next,x4.Now.Cookie,x4.Tick,x4.Since,x4.Pasts,x4.Taken,x4.Next)) h (wt Q5 ⟨⟨_,rfl,.refl _⟩,⟨_,rfl,.refl _⟩,Q0⟩ rfl) ?_
  intro s1 y1 hB1 hy1
  unfold law10N7 at hB1
  refine sq ?_
  refine sg ?_
  refine ⟨_,List.length_map _,fun _=>?_⟩
  refine wT [(1,.s (mE p_more)),(5,vb x1),(6,.b 6 0),(7,.b 7 0),(8,vi s1.1),(41,vb (decide (s1.1 < (p_more.length:Int))))] [(6,.box [.s (mI x4.Now.Nodes),vi x4.Now.Next,vi x4.Now.Cookie,vi x4.Tick,.s (mB x4.Since),.s (mA x4.Pasts),.s (mU x4.Taken),vi x4.Next]),(7,.box [.s (mI s1.2.1),vi s1.2.2.1,vi s1.2.2.2.1,vi s1.2.2.2.2.1,.s (mB s1.2.2.2.2.2.1),.s (mA s1.2.2.2.2.2.2.1),.s (mU s1.2.2.2.2.2.2.2.1),vi s1.2.2.2.2.2.2.2.2])] Q6 J2 rfl ?_
  refine cn 41 (decide (s1.1 < (p_more.length:Int))) rfl hB1 (fun hb hB1=>?_) fun hb hB1=>?_
  ·refine sk ?_
   refine sq ?_
   refine bl ?_
   refine sq ?_
   refine Ok.chain (chain:=[(10,[0,1,2,3,4,5,6,7,8,9,12,13]),(11,[8,9,12,13])]) Tryz.tok Tryz.mixed (by kernel_rfl) ?_
   obtain ⟨x5,hx5,hB1⟩:=bindS hB1
   obtain ⟨x6,hx6,hB1⟩:=bindS hB1
   refine ⟨_,⟨_,rfl,rfl⟩,_,rfl,_,rfl,_,⟨_,idx_nat hx5,_,idx_row hx5,rfl⟩,_,⟨_,rfl,rfl⟩,_,⟨_,.of_pure (w_law10_own hx6) (LeL.refl _),rfl⟩,_,rfl,_,rfl,_,rfl,_,rfl,_,rfl,_,rfl,⟨⟨_,rfl,_,rfl,rfl⟩,⟨_,rfl,rfl⟩,⟨_,rfl,rfl⟩,⟨_,rfl,_,idx_nat hx5,_,idx_row hx5,rfl⟩,⟨_,rfl,_,rfl,rfl⟩,⟨_,rfl,_,.of_pure (w_law10_own hx6) (LeL.refl _),rfl⟩,⟨_,rfl,rfl⟩,⟨_,rfl,rfl⟩,⟨_,rfl,rfl⟩,⟨_,rfl,rfl⟩,⟨_,rfl,rfl⟩,⟨_,rfl,rfl⟩,Q0⟩,_,rfl,⟨⟨_,rfl,rfl⟩,⟨_,rfl,rfl⟩,⟨_,rfl,rfl⟩,⟨_,rfl,rfl⟩,Q0⟩,?_⟩
   refine wT [(1,.s (mE p_more)),(5,vb x1),(6,.b 6 0),(7,.b 7 0),(8,vi s1.1),(9,.b 9 0)] [(6,.box [.s (mI x4.Now.Nodes),vi x4.Now.Next,vi x4.Now.Cookie,vi x4.Tick,.s (mB x4.Since),.s (mA x4.Pasts),.s (mU x4.Taken),vi x4.Next]),(7,.box [.s (mI s1.2.1),vi s1.2.2.1,vi s1.2.2.2.1,vi s1.2.2.2.2.1,.s (mB s1.2.2.2.2.2.1),.s (mA s1.2.2.2.2.2.2.1),.s (mU s1.2.2.2.2.2.2.2.1),vi s1.2.2.2.2.2.2.2.2]),(9,.box [.s (mI x6.1.Now.Nodes),vi x6.1.Now.Next,vi x6.1.Now.Cookie,vi x6.1.Tick,.s (mB x6.1.Since),.s (mA x6.1.Pasts),.s (mU x6.1.Taken),vi x6.1.Next])] Q6 J3 rfl ?_
   refine sq ?_
   obtain ⟨v3,hv3,hB1⟩:=bindS hB1
   refine Ok.seqw ⟨Cat.tab [(1,.s (mE p_more)),(5,vb x1),(6,.b 6 0),(7,.b 7 0),(8,vi s1.1),(9,.b 9 0),(72,vb v3)],[(6,.box [.s (mI x4.Now.Nodes),vi x4.Now.Next,vi x4.Now.Cookie,vi x4.Tick,.s (mB x4.Since),.s (mA x4.Pasts),.s (mU x4.Taken),vi x4.Next]),(7,.box [.s (mI s1.2.1),vi s1.2.2.1,vi s1.2.2.2.1,vi s1.2.2.2.2.1,.s (mB s1.2.2.2.2.2.1),.s (mA s1.2.2.2.2.2.2.1),.s (mU s1.2.2.2.2.2.2.2.1),vi s1.2.2.2.2.2.2.2.2]),(9,.box [.s (mI x6.1.Now.Nodes),vi x6.1.Now.Next,vi x6.1.Now.Cookie,vi x6.1.Tick,.s (mB x6.1.Since),.s (mA x6.1.Pasts),.s (mU x6.1.Taken),vi x6.1.Next])]⟩ ?_ ?_
   ·refine rg ?_
    obtain ⟨x7,hx7,hv3⟩:=bindS hv3
    refine ⟨_,rfl,?_⟩
    refine CallOk.call (w_ref07N4 hx7) (LeL.refl _) ?_
    obtain ⟨c3,hg4,hv3⟩:=bindS hv3
    refine Br.itf hg4 (fun hb hg4=>?_) fun hb hg4=>?_
    ·cases hg4
     obtain ⟨c4,hg5,hv3⟩:=bindS hv3
     replace hg5:=iteT hg5
     cases hg5
     cases hv3
     exact wt Q7 J3 rfl
    refine ⟨_,rfl,?_⟩
    cases hg4
    obtain ⟨c4,hg6,hv3⟩:=bindS hv3
    refine Br.itf hg6 (fun hb hg6=>?_) fun hb hg6=>?_
    ·cases hg6
     cases hv3
     exact wt Q7 J3 rfl
    refine ⟨_,rfl,_,List.length_map _,fun _=>⟨_,rfl,_,List.length_map _,fun _=>?_⟩⟩
    cases hg6
    cases hv3
    exact wt Q7 J3 rfl
   refine cn 72 (v3) rfl hB1 (fun hb hB1=>?_) fun hb hB1=>?_
   ·refine sg ?_
    refine wE [(4,vb false)] Q1 ?_
    refine rt ?_
    have hB1:=out_ret hB1 hy1
    cases hB1
    exact Fz.v
   refine sk ?_
   refine rg ?_
   refine ⟨_,rfl,_,rfl,?_⟩
   refine wT [(1,.s (mE p_more)),(5,vb x1),(6,.b 6 0),(7,.b 7 0),(8,vi s1.1)] [(6,.box [.s (mI x4.Now.Nodes),vi x4.Now.Next,vi x4.Now.Cookie,vi x4.Tick,.s (mB x4.Since),.s (mA x4.Pasts),.s (mU x4.Taken),vi x4.Next]),(7,.box [.s (mI x6.1.Now.Nodes),vi x6.1.Now.Next,vi x6.1.Now.Cookie,vi x6.1.Tick,.s (mB x6.1.Since),.s (mA x6.1.Pasts),.s (mU x6.1.Taken),vi x6.1.Next])] Q5 J2 rfl ?_
   refine rg ?_
   obtain ⟨hc1,hB1⟩:=chk_some hB1
   refine (Or.inl ⟨hc1,?_⟩)
   exact ⟨_,sj hB1,wt Q5 J2 rfl⟩
  refine xt ?_
  have hB1:=out_ret hB1 hy1
  exact ⟨_,hB1,wt Q3 ⟨⟨_,rfl,.refl _⟩,⟨_,rfl,.refl _⟩,Q0⟩ rfl⟩
 intro v2 h
 unfold law10N10 at h
 refine Ok.seqj (fun v4=>⟨Cat.tab [(5,vb x1)],[]⟩) (fun v4=>law10N11 x1 v4=some r) ?_ ?_
 ·refine sg ?_
  refine wT [(5,vb x1),(6,.b 6 0),(7,.b 7 0),(12,vi (0))] [(6,.box [.s (mI x4.Now.Nodes),vi x4.Now.Next,vi x4.Now.Cookie,vi x4.Tick,.s (mB x4.Since),.s (mA x4.Pasts),.s (mU x4.Taken),vi x4.Next]),(7,.box [.s (mI v2.1),vi v2.2.1,vi v2.2.2.1,vi v2.2.2.2.1,.s (mB v2.2.2.2.2.1),.s (mA v2.2.2.2.2.2.1),.s (mU v2.2.2.2.2.2.2.1),vi v2.2.2.2.2.2.2.2])] Q4 J2 rfl ?_
  refine bl ?_
  refine Ok.loop (fun (s2:Int)=>⟨Cat.tab [(5,vb x1),(6,.b 6 0),(7,.b 7 0),(12,vi s2)],[(6,.box [.s (mI x4.Now.Nodes),vi x4.Now.Next,vi x4.Now.Cookie,vi x4.Tick,.s (mB x4.Since),.s (mA x4.Pasts),.s (mU x4.Taken),vi x4.Next]),(7,.box [.s (mI v2.1),vi v2.2.1,vi v2.2.2.1,vi v2.2.2.2.1,.s (mB v2.2.2.2.2.1),.s (mA v2.2.2.2.2.2.1),.s (mU v2.2.2.2.2.2.2.1),vi v2.2.2.2.2.2.2.2])]⟩) (law10N8 x4 v2 x1) (s0:=0) h (wt Q4 ⟨⟨_,rfl,.refl _⟩,⟨_,rfl,.refl _⟩,Q0⟩ rfl) ?_
  intro s2 y2 hB2 hy2
  unfold law10N8 at hB2
  refine sq ?_
  refine sg ?_
  refine ⟨_,rfl,_,List.length_map _,fun _=>?_⟩
  refine wT [(5,vb x1),(6,.b 6 0),(7,.b 7 0),(12,vi s2),(78,vb (decide (s2 < (x4.Taken.length:Int))))] [(6,.box [.s (mI x4.Now.Nodes),vi x4.Now.Next,vi x4.Now.Cookie,vi x4.Tick,.s (mB x4.Since),.s (mA x4.Pasts),.s (mU x4.Taken),vi x4.Next]),(7,.box [.s (mI v2.1),vi v2.2.1,vi v2.2.2.1,vi v2.2.2.2.1,.s (mB v2.2.2.2.2.1),.s (mA v2.2.2.2.2.2.1),.s (mU v2.2.2.2.2.2.2.1),vi v2.2.2.2.2.2.2.2])] Q5 J2 rfl ?_
  refine cn 78 (decide (s2 < (x4.Taken.length:Int))) rfl hB2 (fun hb hB2=>?_) fun hb hB2=>?_
  ·refine sk ?_
   refine Ok.seqj (fun v5=>⟨Cat.tab [(5,vb x1),(6,.b 6 0),(7,.b 7 0),(12,vi s2)],[(6,.box [.s (mI x4.Now.Nodes),vi x4.Now.Next,vi x4.Now.Cookie,vi x4.Tick,.s (mB x4.Since),.s (mA x4.Pasts),.s (mU x4.Taken),vi x4.Next]),(7,.box [.s (mI v2.1),vi v2.2.1,vi v2.2.2.1,vi v2.2.2.2.1,.s (mB v2.2.2.2.2.1),.s (mA v2.2.2.2.2.2.1),.s (mU v2.2.2.2.2.2.2.1),vi v2.2.2.2.2.2.2.2])]⟩) (fun v5=>law10N12 s2 v5=some y2) ?_ ?_
   ·refine bl ?_
    refine sg ?_
    obtain ⟨x8,hx8,hB2⟩:=bindS hB2
    refine ⟨_,rfl,_,idx_nat hx8,_,idx_row hx8,_,rfl,?_⟩
    refine wT [(5,vb x1),(6,.b 6 0),(7,.b 7 0),(12,vi s2),(13,vi x8.Id)] [(6,.box [.s (mI x4.Now.Nodes),vi x4.Now.Next,vi x4.Now.Cookie,vi x4.Tick,.s (mB x4.Since),.s (mA x4.Pasts),.s (mU x4.Taken),vi x4.Next]),(7,.box [.s (mI v2.1),vi v2.2.1,vi v2.2.2.1,vi v2.2.2.2.1,.s (mB v2.2.2.2.2.1),.s (mA v2.2.2.2.2.2.1),.s (mU v2.2.2.2.2.2.2.1),vi v2.2.2.2.2.2.2.2])] Q5 J2 rfl ?_
    refine sg ?_
    refine wT [(5,vb x1),(6,.b 6 0),(7,.b 7 0),(12,vi s2),(13,vi x8.Id),(14,vb false)] [(6,.box [.s (mI x4.Now.Nodes),vi x4.Now.Next,vi x4.Now.Cookie,vi x4.Tick,.s (mB x4.Since),.s (mA x4.Pasts),.s (mU x4.Taken),vi x4.Next]),(7,.box [.s (mI v2.1),vi v2.2.1,vi v2.2.2.1,vi v2.2.2.2.1,.s (mB v2.2.2.2.2.1),.s (mA v2.2.2.2.2.2.1),.s (mU v2.2.2.2.2.2.2.1),vi v2.2.2.2.2.2.2.2])] Q6 J2 rfl ?_
    obtain ⟨v6,hv6,hB2⟩:=bindS hB2
    refine Ok.seqw ⟨Cat.tab [(5,vb x1),(6,.b 6 0),(7,.b 7 0),(12,vi s2),(13,vi x8.Id),(14,vb v6)],[(6,.box [.s (mI x4.Now.Nodes),vi x4.Now.Next,vi x4.Now.Cookie,vi x4.Tick,.s (mB x4.Since),.s (mA x4.Pasts),.s (mU x4.Taken),vi x4.Next]),(7,.box [.s (mI v2.1),vi v2.2.1,vi v2.2.2.1,vi v2.2.2.2.1,.s (mB v2.2.2.2.2.1),.s (mA v2.2.2.2.2.2.1),.s (mU v2.2.2.2.2.2.2.1),vi v2.2.2.2.2.2.2.2])]⟩ ?_ ?_
    ·refine sg ?_
     refine wT [(5,vb x1),(6,.b 6 0),(7,.b 7 0),(12,vi s2),(13,vi x8.Id),(14,vb false),(15,vi (0))] [(6,.box [.s (mI x4.Now.Nodes),vi x4.Now.Next,vi x4.Now.Cookie,vi x4.Tick,.s (mB x4.Since),.s (mA x4.Pasts),.s (mU x4.Taken),vi x4.Next]),(7,.box [.s (mI v2.1),vi v2.2.1,vi v2.2.2.1,vi v2.2.2.2.1,.s (mB v2.2.2.2.2.1),.s (mA v2.2.2.2.2.2.1),.s (mU v2.2.2.2.2.2.2.1),vi v2.2.2.2.2.2.2.2])] Q7 J2 rfl ?_
     refine bl ?_
     refine Ok.loop (fun (s3:Bool×Int)=>⟨Cat.tab [(5,vb x1),(6,.b 6 0),(7,.b 7 0),(12,vi s2),(13,vi x8.Id),(14,vb s3.1),(15,vi s3.2)],[(6,.box [.s (mI x4.Now.Nodes),vi x4.Now.Next,vi x4.Now.Cookie,vi x4.Tick,.s (mB x4.Since),.s (mA x4.Pasts),.s (mU x4.Taken),vi x4.Next]),(7,.box [.s (mI v2.1),vi v2.2.1,vi v2.2.2.1,vi v2.2.2.2.1,.s (mB v2.2.2.2.2.1),.s (mA v2.2.2.2.2.2.1),.s (mU v2.2.2.2.2.2.2.1),vi v2.2.2.2.2.2.2.2])]⟩) (law10N9 v2 x8) (s0:=(false,0)) hv6 (wt Q7 ⟨⟨_,rfl,.refl _⟩,⟨_,rfl,.refl _⟩,Q0⟩ rfl) ?_
     intro s3 y3 hB3 hy3
     unfold law10N9 at hB3
     refine sq ?_
     refine sg ?_
     refine ⟨_,rfl,_,List.length_map _,fun _=>?_⟩
     refine wT [(5,vb x1),(6,.b 6 0),(7,.b 7 0),(12,vi s2),(13,vi x8.Id),(14,vb s3.1),(15,vi s3.2),(91,vb (decide (s3.2 < (v2.2.2.2.2.2.2.1.length:Int))))] [(6,.box [.s (mI x4.Now.Nodes),vi x4.Now.Next,vi x4.Now.Cookie,vi x4.Tick,.s (mB x4.Since),.s (mA x4.Pasts),.s (mU x4.Taken),vi x4.Next]),(7,.box [.s (mI v2.1),vi v2.2.1,vi v2.2.2.1,vi v2.2.2.2.1,.s (mB v2.2.2.2.2.1),.s (mA v2.2.2.2.2.2.1),.s (mU v2.2.2.2.2.2.2.1),vi v2.2.2.2.2.2.2.2])] Q8 J2 rfl ?_
     refine cn 91 (decide (s3.2 < (v2.2.2.2.2.2.2.1.length:Int))) rfl hB3 (fun hb hB3=>?_) fun hb hB3=>?_
     ·refine sk ?_
      obtain ⟨v7,hv7,hB3⟩:=bindS hB3
      refine Ok.seqw ⟨Cat.tab [(5,vb x1),(6,.b 6 0),(7,.b 7 0),(12,vi s2),(13,vi x8.Id),(14,vb v7),(15,vi s3.2)],[(6,.box [.s (mI x4.Now.Nodes),vi x4.Now.Next,vi x4.Now.Cookie,vi x4.Tick,.s (mB x4.Since),.s (mA x4.Pasts),.s (mU x4.Taken),vi x4.Next]),(7,.box [.s (mI v2.1),vi v2.2.1,vi v2.2.2.1,vi v2.2.2.2.1,.s (mB v2.2.2.2.2.1),.s (mA v2.2.2.2.2.2.1),.s (mU v2.2.2.2.2.2.2.1),vi v2.2.2.2.2.2.2.2])]⟩ ?_ ?_
      ·refine bl ?_
       refine rg ?_
       obtain ⟨c5,hg7,hv7⟩:=bindS hv7
       refine Br.itf hg7 (fun hb hg7=>?_) fun hb hg7=>?_
       ·cases hg7
        cases hv7
        exact wt Q7 J2 rfl
       obtain ⟨x9,hx9,hg7⟩:=bindS hg7
       refine ⟨_,rfl,_,idx_nat hx9,_,idx_row hx9,_,rfl,?_⟩
       cases hg7
       cases hv7
       exact wt Q7 J2 rfl
      refine rg ?_
      obtain ⟨hc2,hB3⟩:=chk_some hB3
      refine (Or.inl ⟨hc2,?_⟩)
      exact ⟨_,sj hB3,wt Q7 J2 rfl⟩
     refine xt ?_
     have hB3:=out_ret hB3 hy3
     cases hB3
     exact wt Q6 J2 rfl
    refine sg ?_
    obtain ⟨x10,hx10,hB2⟩:=bindS hB2
    refine ⟨_,rfl,?_⟩
    refine CallOk.call (w_shot_At hx10) (LeL.refl _) ?_
    refine wT [(5,vb x1),(6,.b 6 0),(7,.b 7 0),(12,vi s2),(13,vi x8.Id),(14,vb v6),(16,vi x10.1),(17,.s (mI x10.2.1)),(18,vi x10.2.2)] [(6,.box [.s (mI x4.Now.Nodes),vi x4.Now.Next,vi x4.Now.Cookie,vi x4.Tick,.s (mB x4.Since),.s (mA x4.Pasts),.s (mU x4.Taken),vi x4.Next]),(7,.box [.s (mI v2.1),vi v2.2.1,vi v2.2.2.1,vi v2.2.2.2.1,.s (mB v2.2.2.2.2.1),.s (mA v2.2.2.2.2.2.1),.s (mU v2.2.2.2.2.2.2.1),vi v2.2.2.2.2.2.2.2])] ⟨lr,Q8⟩ J2 rfl ?_
    refine sg ?_
    obtain ⟨x11,hx11,hB2⟩:=bindS hB2
    refine ⟨_,rfl,?_⟩
    refine CallOk.call (w_shot_At hx11) (LeL.refl _) ?_
    refine wT [(5,vb x1),(6,.b 6 0),(7,.b 7 0),(12,vi s2),(14,vb v6),(16,vi x10.1),(17,.s (mI x10.2.1)),(18,vi x10.2.2),(19,vi x11.1),(20,.s (mI x11.2.1)),(21,vi x11.2.2)] [(6,.box [.s (mI x4.Now.Nodes),vi x4.Now.Next,vi x4.Now.Cookie,vi x4.Tick,.s (mB x4.Since),.s (mA x4.Pasts),.s (mU x4.Taken),vi x4.Next]),(7,.box [.s (mI v2.1),vi v2.2.1,vi v2.2.2.1,vi v2.2.2.2.1,.s (mB v2.2.2.2.2.1),.s (mA v2.2.2.2.2.2.1),.s (mU v2.2.2.2.2.2.2.1),vi v2.2.2.2.2.2.2.2])] ⟨lr,lr,lr,Q8⟩ J2 rfl ?_
    obtain ⟨v8,hv8,hB2⟩:=bindS hB2
    refine Ok.seqw ⟨Cat.tab [(5,vb x1),(6,.b 6 0),(7,.b 7 0),(12,vi s2),(146,vb v8)],[(6,.box [.s (mI x4.Now.Nodes),vi x4.Now.Next,vi x4.Now.Cookie,vi x4.Tick,.s (mB x4.Since),.s (mA x4.Pasts),.s (mU x4.Taken),vi x4.Next]),(7,.box [.s (mI v2.1),vi v2.2.1,vi v2.2.2.1,vi v2.2.2.2.1,.s (mB v2.2.2.2.2.1),.s (mA v2.2.2.2.2.2.1),.s (mU v2.2.2.2.2.2.2.1),vi v2.2.2.2.2.2.2.2])]⟩ ?_ ?_
    ·refine rg ?_
     obtain ⟨c9,hg8,hv8⟩:=bindS hv8
     refine Br.itf hg8 (fun hb hg8=>?_) fun hb hg8=>?_
     ·cases hg8
      obtain ⟨c11,hg9,hv8⟩:=bindS hv8
      replace hg9:=iteT hg9
      cases hg9
      cases hv8
      exact wt Q5 J2 rfl
     obtain ⟨c8,hg10,hg8⟩:=bindS hg8
     refine Br.ite hg10 (fun hb hg10=>?_) fun hb hg10=>?_
     ·obtain ⟨c6,hg11,hg10⟩:=bindS hg10
      refine Br.itf hg11 (fun hb hg11=>?_) fun hb hg11=>?_
      ·cases hg11
       obtain ⟨c7,hg12,hg10⟩:=bindS hg10
       replace hg12:=iteT hg12
       cases hg12
       cases hg10
       cases hg8
       obtain ⟨c11,hg13,hv8⟩:=bindS hv8
       replace hg13:=iteT hg13
       cases hg13
       cases hv8
       exact wt Q5 J2 rfl
      cases hg11
      obtain ⟨c7,hg14,hg10⟩:=bindS hg10
      refine Br.itf hg14 (fun hb hg14=>?_) fun hb hg14=>?_
      ·cases hg14
       cases hg10
       cases hg8
       obtain ⟨c11,hg15,hv8⟩:=bindS hv8
       replace hg15:=iteT hg15
       cases hg15
       cases hv8
       exact wt Q5 J2 rfl
      obtain ⟨x12,hx12,hg14⟩:=bindS hg14
      refine CallOk.call (w_ref07N8 hx12) (LeL.refl _) ?_
      cases hg14
      cases hg10
      cases hg8
      obtain ⟨c11,hg16,hv8⟩:=bindS hv8
      refine Br.itf hg16 (fun hb hg16=>?_) fun hb hg16=>?_
      ·cases hg16
       cases hv8
       exact wt Q5 J2 rfl
      obtain ⟨c10,hg17,hg16⟩:=bindS hg16
      refine Br.ite hg17 (fun hb hg17=>?_) fun hb hg17=>?_
      ·cases hg17
       cases hg16
       cases hv8
       exact wt Q5 J2 rfl
      cases hg17
      cases hg16
      cases hv8
      exact wt Q5 J2 rfl
     cases hg10
     cases hg8
     obtain ⟨c11,hg18,hv8⟩:=bindS hv8
     replace hg18:=iteF hg18
     obtain ⟨c10,hg19,hg18⟩:=bindS hg18
     refine Br.ite hg19 (fun hb hg19=>?_) fun hb hg19=>?_
     ·cases hg19
      cases hg18
      cases hv8
      exact wt Q5 J2 rfl
     cases hg19
     cases hg18
     cases hv8
     exact wt Q5 J2 rfl
    refine cn 146 (v8) rfl hB2 (fun hb hB2=>?_) fun hb hB2=>?_
    ·refine sg ?_
     refine wE [(4,vb false)] Q1 ?_
     refine rt ?_
     have hB2:=out_ret hB2 hy2
     cases hB2
     exact Fz.v
    refine sk ?_
    exact ⟨_,hB2,wt Q4 ⟨⟨_,rfl,.refl _⟩,⟨_,rfl,.refl _⟩,Q0⟩ rfl⟩
   intro v5 hB2
   unfold law10N12 at hB2
   refine rg ?_
   obtain ⟨hc3,hB2⟩:=chk_some hB2
   refine (Or.inl ⟨hc3,?_⟩)
   exact ⟨_,sj hB2,wt Q4 J2 rfl⟩
  refine xt ?_
  have hB2:=out_ret hB2 hy2
  exact ⟨_,hB2,wt Q1 Q0 rfl⟩
 intro v4 h
 unfold law10N11 at h
 refine sg ?_
 refine wE [(4,vb x1)] Q1 ?_
 refine rt ?_
 cases h
 exact Fz.v
end Go.Proofs
