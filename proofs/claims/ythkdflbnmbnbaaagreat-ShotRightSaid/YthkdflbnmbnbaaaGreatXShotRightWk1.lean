/- The walks of this seat beside the plain programs, part 1. No condition. -/
import Derived.Test.YthkdflbnmbnbaaaGreatXShotRightEn
import Derived.Test.YthkdflbnmbnbaaaGreatXShotRightWk0
namespace Go.Proofs
set_option linter.all false
open Go Go.Cat
variable [M:Mono]
set_option maxRecDepth 100000
theorem w_shot_node {p_a} {p_b} {r} (h:shot_node p_a p_b=some r):Pure Tryz.prog 60 [(.a [(vi p_a.Ino),(vi p_a.Kind),(vi p_a.Links),(.s (mD p_a.Data)),(.s (mC p_a.Ents)),(vi p_a.Up)]),(.a [(vi p_b.Ino),(vi p_b.Kind),(vi p_b.Links),(.s (mD p_b.Data)),(.s (mC p_b.Ents)),(vi p_b.Up)])] (vb r):=by
 refine po Tryz.tok 47 Tryz.func60 (by kernel_rfl) rfl rfl rfl ?_
 unfold shot_node at h
 refine wE [(0,.a [vi p_a.Ino,vi p_a.Kind,vi p_a.Links,.s (mD p_a.Data),.s (mC p_a.Ents),vi p_a.Up]),(1,.a [vi p_b.Ino,vi p_b.Kind,vi p_b.Links,.s (mD p_b.Data),.s (mC p_b.Ents),vi p_b.Up])] Q2 ?_
 refine sg ?_
 refine wT [(2,.b 2 0),(3,.b 3 0)] [(2,.box [vi p_a.Ino,vi p_a.Kind,vi p_a.Links,.s (mD p_a.Data),.s (mC p_a.Ents),vi p_a.Up]),(3,.box [vi p_b.Ino,vi p_b.Kind,vi p_b.Links,.s (mD p_b.Data),.s (mC p_b.Ents),vi p_b.Up])] Q2 J2 rfl ?_
 obtain ⟨v1,hv1,h⟩:=bindS h
 refine Ok.seqw ⟨Cat.tab [(4,vb v1)],[]⟩ ?_ ?_
 ·refine rg ?_
  refine ⟨_,rfl,_,rfl,?_⟩
  obtain ⟨c1,hg1,hv1⟩:=bindS hv1
  refine Br.ite hg1 (fun hb hg1=>?_) fun hb hg1=>?_
  ·refine ⟨_,rfl,_,rfl,?_⟩
   cases hg1
   obtain ⟨c2,hg2,hv1⟩:=bindS hv1
   refine Br.ite hg2 (fun hb hg2=>?_) fun hb hg2=>?_
   ·refine ⟨_,rfl,_,rfl,?_⟩
    cases hg2
    obtain ⟨c3,hg3,hv1⟩:=bindS hv1
    refine Br.ite hg3 (fun hb hg3=>?_) fun hb hg3=>?_
    ·refine ⟨_,rfl,_,rfl,?_⟩
     cases hg3
     obtain ⟨c4,hg4,hv1⟩:=bindS hv1
     refine Br.ite hg4 (fun hb hg4=>?_) fun hb hg4=>?_
     ·refine ⟨_,rfl,_,rfl,_,rfl,_,rfl,_,str_eql _ _,?_⟩
      cases hg4
      obtain ⟨c5,hg5,hv1⟩:=bindS hv1
      refine Br.ite hg5 (fun hb hg5=>?_) fun hb hg5=>?_
      ·obtain ⟨x1,hx1,hg5⟩:=bindS hg5
       refine ⟨_,rfl,_,rfl,?_⟩
       refine CallOk.call (w_slicesN7 hx1) (LeL.refl _) ?_
       cases hg5
       cases hv1
       exact wt Q1 Q0 rfl
      cases hg5
      cases hv1
      exact wt Q1 Q0 rfl
     cases hg4
     obtain ⟨c5,hg6,hv1⟩:=bindS hv1
     replace hg6:=iteF hg6
     cases hg6
     cases hv1
     exact wt Q1 Q0 rfl
    cases hg3
    obtain ⟨c4,hg7,hv1⟩:=bindS hv1
    replace hg7:=iteF hg7
    cases hg7
    obtain ⟨c5,hg8,hv1⟩:=bindS hv1
    replace hg8:=iteF hg8
    cases hg8
    cases hv1
    exact wt Q1 Q0 rfl
   cases hg2
   obtain ⟨c3,hg9,hv1⟩:=bindS hv1
   replace hg9:=iteF hg9
   cases hg9
   obtain ⟨c4,hg10,hv1⟩:=bindS hv1
   replace hg10:=iteF hg10
   cases hg10
   obtain ⟨c5,hg11,hv1⟩:=bindS hv1
   replace hg11:=iteF hg11
   cases hg11
   cases hv1
   exact wt Q1 Q0 rfl
  cases hg1
  obtain ⟨c2,hg12,hv1⟩:=bindS hv1
  replace hg12:=iteF hg12
  cases hg12
  obtain ⟨c3,hg13,hv1⟩:=bindS hv1
  replace hg13:=iteF hg13
  cases hg13
  obtain ⟨c4,hg14,hv1⟩:=bindS hv1
  replace hg14:=iteF hg14
  cases hg14
  obtain ⟨c5,hg15,hv1⟩:=bindS hv1
  replace hg15:=iteF hg15
  cases hg15
  cases hv1
  exact wt Q1 Q0 rfl
 refine rt ?_
 cases h
 exact Fz.v
theorem w_shotN9 {p_x} {p_a1_0} {p_a2_0} {r} (h:shot_seen_1 p_x p_a1_0 p_a2_0=some r):Pure Tryz.prog 84 [(.a [(vi p_x.Id),(vi p_x.Ino),(vi p_x.At)]),(.p [(vi p_a1_0)]),(.p [(vi p_a2_0)])] (vb r):=by
 refine po Tryz.tok 15 Tryz.func84 (by kernel_rfl) rfl rfl rfl ?_
 unfold shot_seen_1 at h
 refine wE [(0,.a [vi p_x.Id,vi p_x.Ino,vi p_x.At]),(1,.p [vi p_a1_0]),(2,.p [vi p_a2_0])] Q3 ?_
 refine sg ?_
 refine wT [(1,.p [vi p_a1_0]),(2,.p [vi p_a2_0]),(3,.b 3 0)] [(3,.box [vi p_x.Id,vi p_x.Ino,vi p_x.At])] Q3 J1 rfl ?_
 obtain ⟨v1,hv1,h⟩:=bindS h
 refine Ok.seqw ⟨Cat.tab [(4,vb v1)],[]⟩ ?_ ?_
 ·refine rg ?_
  refine ⟨_,rfl,_,rfl,?_⟩
  obtain ⟨c1,hg1,hv1⟩:=bindS hv1
  refine Br.ite hg1 (fun hb hg1=>?_) fun hb hg1=>?_
  ·refine ⟨_,rfl,_,rfl,?_⟩
   cases hg1
   cases hv1
   exact wt Q1 Q0 rfl
  cases hg1
  cases hv1
  exact wt Q1 Q0 rfl
 refine rt ?_
 cases h
 exact Fz.v
theorem w_slicesN9 {p_s} {p_f_c0_0} {p_f_c1_0} {r} (h:slicesN44 p_s p_f_c0_0 p_f_c1_0=some r):Pure Tryz.prog 107 [(.s (mU p_s)),(.c (.func 84) [] [(.p [(vi p_f_c0_0)]),(.p [(vi p_f_c1_0)])])] (vi r):=by
 refine po Tryz.tok 19 Tryz.func107 (by kernel_rfl) rfl rfl rfl ?_
 unfold slicesN44 at h
 refine wE [(0,.s (mU p_s)),(1,.c (.func 84) [] [.p [vi p_f_c0_0],.p [vi p_f_c1_0]])] Q2 ?_
 refine sg ?_
 refine wE [(0,.s (mU p_s)),(1,.c (.func 84) [] [.p [vi p_f_c0_0],.p [vi p_f_c1_0]])] Q2 ?_
 refine Ok.seqj (fun v1=>⟨Cat.tab [],[]⟩) (fun v1=>slicesN48 v1=some r) ?_ ?_
 ·refine sg ?_
  refine ⟨_,List.length_map _,fun _=>?_⟩
  refine wE [(0,.s (mU p_s)),(1,.c (.func 84) [] [.p [vi p_f_c0_0],.p [vi p_f_c1_0]]),(7,vi (p_s.length:Int)),(8,vi (0))] Q4 ?_
  refine bl ?_
  refine Ok.loop (fun (s1:Int)=>⟨Cat.tab [(0,.s (mU p_s)),(1,.c (.func 84) [] [.p [vi p_f_c0_0],.p [vi p_f_c1_0]]),(7,vi (p_s.length:Int)),(8,vi s1)],[]⟩) (slicesN46 p_s p_f_c0_0 p_f_c1_0) (s0:=0) h (wt Q4 Q0 rfl) ?_
  intro s1 y1 hB1 hy1
  unfold slicesN46 at hB1
  refine sg ?_
  refine wE [(0,.s (mU p_s)),(1,.c (.func 84) [] [.p [vi p_f_c0_0],.p [vi p_f_c1_0]]),(7,vi (p_s.length:Int)),(8,vi s1),(9,vb (decide (s1 < (p_s.length:Int))))] Q5 ?_
  refine sq ?_
  refine cn 9 (decide (s1 < (p_s.length:Int))) rfl hB1 (fun hb hB1=>?_) fun hb hB1=>?_
  ·refine sk ?_
   refine sq ?_
   refine bl ?_
   refine sg ?_
   refine wE [(0,.s (mU p_s)),(1,.c (.func 84) [] [.p [vi p_f_c0_0],.p [vi p_f_c1_0]]),(5,vi s1),(7,vi (p_s.length:Int)),(8,vi s1)] Q5 ?_
   refine sg ?_
   obtain ⟨x1,hx1,hB1⟩:=bindS hB1
   obtain ⟨x2,hx2,hB1⟩:=bindS hB1
   refine ⟨_,idx_nat hx1,_,idx_row hx1,_,rfl,?_⟩
   refine CallOk.call (w_shotN9 hx2) (LeL.refl _) ?_
   refine wE [(0,.s (mU p_s)),(1,.c (.func 84) [] [.p [vi p_f_c0_0],.p [vi p_f_c1_0]]),(5,vi s1),(7,vi (p_s.length:Int)),(8,vi s1),(16,vb x2)] Q6 ?_
   refine cn 16 (x2) rfl hB1 (fun hb hB1=>?_) fun hb hB1=>?_
   ·refine sg ?_
    refine wE [(4,vi s1)] Q1 ?_
    refine rt ?_
    have hB1:=out_ret hB1 hy1
    cases hB1
    exact Fz.v
   refine sk ?_
   refine rg ?_
   obtain ⟨hc1,hB1⟩:=chk_some hB1
   refine (Or.inl ⟨hc1,?_⟩)
   exact ⟨_,sj hB1,wt Q4 Q0 rfl⟩
  refine xt ?_
  have hB1:=out_ret hB1 hy1
  exact ⟨_,hB1,wt Q0 Q0 rfl⟩
 intro v1 h
 unfold slicesN48 at h
 refine sg ?_
 refine wE [(4,vi (-1))] Q1 ?_
 refine rt ?_
 cases h
 exact Fz.v
theorem w_slicesN4 {p_s} {p_f_c0} {p_f_c1} {r} (h:slicesN19 p_s p_f_c0 p_f_c1=some r):Pure Tryz.prog 83 [(.s (mU p_s)),(.c (.func 84) [] [(.p [(vi p_f_c0)]),(.p [(vi p_f_c1)])])] (vb r):=by
 refine po Tryz.tok 9 Tryz.func83 (by kernel_rfl) rfl rfl rfl ?_
 unfold slicesN19 at h
 refine wE [(0,.s (mU p_s)),(1,.c (.func 84) [] [.p [vi p_f_c0],.p [vi p_f_c1]])] Q2 ?_
 refine sg ?_
 refine wE [(0,.s (mU p_s)),(1,.c (.func 84) [] [.p [vi p_f_c0],.p [vi p_f_c1]])] Q2 ?_
 refine sg ?_
 obtain ⟨x1,hx1,h⟩:=bindS h
 refine CallOk.call (w_slicesN9 hx1) (LeL.refl _) ?_
 refine wE [(4,vb (decide (x1≥0)))] Q1 ?_
 refine rt ?_
 cases h
 exact Fz.v
theorem w_shot_seen {p_l} {p_from} {p_till} {r} (h:shot_seen p_l p_from p_till=some r):Pure Tryz.prog 51 [(.s (mU p_l)),(vi p_from),(vi p_till)] (vb r):=by
 refine po Tryz.tok 10 Tryz.func51 (by kernel_rfl) rfl rfl rfl ?_
 unfold shot_seen at h
 refine wE [(0,.s (mU p_l)),(1,vi p_from),(2,vi p_till)] Q3 ?_
 refine sg ?_
 refine wT [(0,.s (mU p_l)),(4,.b 4 0),(5,.b 5 0)] [(4,.box [vi p_from]),(5,.box [vi p_till])] Q3 J2 rfl ?_
 refine sg ?_
 obtain ⟨x1,hx1,h⟩:=bindS h
 refine CallOk.borrow (w_slicesN4 hx1) (.cons Fz.s (.cons (Fz.c .nil (.cons (Fz.b rfl rfl) (.cons (Fz.b rfl rfl) .nil))) (.nil))) rfl ?_
 refine wE [(6,vb x1)] Q1 ?_
 refine rt ?_
 cases h
 exact Fz.v
set_option maxHeartbeats 4000000 in
theorem w_shot_Put {p_s} {p_t} {r} (h:shot_Put p_s p_t=some r):Pure Tryz.prog 24 [(.a [(.s (mI p_s.Now.Nodes)),(vi p_s.Now.Next),(vi p_s.Now.Cookie),(vi p_s.Tick),(.s (mB p_s.Since)),(.s (mA p_s.Pasts)),(.s (mU p_s.Taken)),(vi p_s.Next)]),(.a [(.s (mI p_t.Nodes)),(vi p_t.Next),(vi p_t.Cookie)])] (.a [(.s (mI r.Now.Nodes)),(vi r.Now.Next),(vi r.Now.Cookie),(vi r.Tick),(.s (mB r.Since)),(.s (mA r.Pasts)),(.s (mU r.Taken)),(vi r.Next)]):=by
 refine po Tryz.tok 123 Tryz.func24 (by kernel_rfl) rfl rfl rfl ?_
 unfold shot_Put at h
 refine wE [(0,.a [.s (mI p_s.Now.Nodes),vi p_s.Now.Next,vi p_s.Now.Cookie,vi p_s.Tick,.s (mB p_s.Since),.s (mA p_s.Pasts),.s (mU p_s.Taken),vi p_s.Next]),(1,.a [.s (mI p_t.Nodes),vi p_t.Next,vi p_t.Cookie])] Q2 ?_
 refine sg ?_
 refine wT [(2,.b 2 0),(3,.b 3 0),(4,.b 4 0)] [(2,.box [.s (mI p_s.Now.Nodes),vi p_s.Now.Next,vi p_s.Now.Cookie,vi p_s.Tick,.s (mB p_s.Since),.s (mA p_s.Pasts),.s (mU p_s.Taken),vi p_s.Next]),(3,.box [.s (mI p_t.Nodes),vi p_t.Next,vi p_t.Cookie]),(4,.box [.v (.slice none 0 0),vi (0),vi (0),vi (0),.v (.slice none 0 0),.v (.slice none 0 0),.v (.slice none 0 0),vi (0)])] Q3 J3 rfl ?_
 refine sq ?_
 refine sg ?_
 obtain ⟨x1,hx1,h⟩:=bindS h
 refine ⟨_,rfl,_,rfl,?_⟩
 refine CallOk.call (w_tree_Same hx1) (LeL.refl _) ?_
 refine wT [(2,.b 2 0),(3,.b 3 0),(4,.b 4 0),(16,vb x1)] [(2,.box [.s (mI p_s.Now.Nodes),vi p_s.Now.Next,vi p_s.Now.Cookie,vi p_s.Tick,.s (mB p_s.Since),.s (mA p_s.Pasts),.s (mU p_s.Taken),vi p_s.Next]),(3,.box [.s (mI p_t.Nodes),vi p_t.Next,vi p_t.Cookie]),(4,.box [.v (.slice none 0 0),vi (0),vi (0),vi (0),.v (.slice none 0 0),.v (.slice none 0 0),.v (.slice none 0 0),vi (0)])] Q4 J3 rfl ?_
 refine cn 16 (x1) rfl h (fun hb h=>?_) fun hb h=>?_
 ·refine sg ?_
  refine ⟨_,rfl,_,rfl,?_⟩
  refine wT [(4,.b 4 0)] [(4,.box [.s (mI p_s.Now.Nodes),vi p_s.Now.Next,vi p_s.Now.Cookie,vi p_s.Tick,.s (mB p_s.Since),.s (mA p_s.Pasts),.s (mU p_s.Taken),vi p_s.Next])] Q1 J1 rfl ?_
  refine rt ?_
  cases h
  exact ⟨_,rfl,(Fz.imm rfl)⟩
 refine sk ?_
 refine sq ?_
 obtain ⟨hc1,h⟩:=chk_some h
 obtain ⟨x2,hx2,h⟩:=bindS h
 refine Ok.draw (m:=13) (MD:=⟨[24]⟩) (CH:=⟨[(24,.own 75 8 (mA x2))]⟩) Tryz.tok Tryz.mixed (by kernel_rfl) ?_
 refine ⟨_,⟨_,rfl,rfl⟩,_,rfl,_,⟨_,rfl,rfl⟩,_,Or.inl ⟨hc1,rfl⟩,_,rfl,_,⟨_,rfl,rfl⟩,_,rfl,_,⟨_,rfl,rfl⟩,_,rfl,_,⟨_,rfl,rfl⟩,_,rfl,⟨⟨_,(wo_slicesN1 hx2).makes,LeL.refl _⟩,Q0⟩,_,rfl,?_⟩
 refine wT [(2,.b 2 0),(3,.b 3 0),(4,.b 4 0),(5,.b 5 0)] [(2,.box [.s (mI p_s.Now.Nodes),vi p_s.Now.Next,vi p_s.Now.Cookie,vi p_s.Tick,.s (mB p_s.Since),.s (mA p_s.Pasts),.s (mU p_s.Taken),vi p_s.Next]),(3,.box [.s (mI p_t.Nodes),vi p_t.Next,vi p_t.Cookie]),(4,.box [.v (.slice none 0 0),vi (0),vi (0),vi (0),.v (.slice none 0 0),.v (.slice none 0 0),.v (.slice none 0 0),vi (0)]),(5,.box [.s (mI p_t.Nodes),vi p_t.Next,vi p_t.Cookie,vi (p_s.Tick+1),.v (.slice none 0 0),.o 24,.s (mU p_s.Taken),vi p_s.Next]),(24,.own 75 8 (mA x2))] Q4 ⟨hr,J4⟩ rfl ?_
 obtain ⟨v1,hv1,h⟩:=bindS h
 refine Ok.seqw ⟨Cat.tab [(2,.b 2 0),(3,.b 3 0),(4,.b 4 0),(5,.b 5 0)],[(2,.box [.s (mI p_s.Now.Nodes),vi p_s.Now.Next,vi p_s.Now.Cookie,vi p_s.Tick,.s (mB p_s.Since),.s (mA p_s.Pasts),.s (mU p_s.Taken),vi p_s.Next]),(3,.box [.s (mI p_t.Nodes),vi p_t.Next,vi p_t.Cookie]),(4,.box [.v (.slice none 0 0),vi (0),vi (0),vi (0),.v (.slice none 0 0),.v (.slice none 0 0),.v (.slice none 0 0),vi (0)]),(5,.box [.s (mI p_t.Nodes),vi p_t.Next,vi p_t.Cookie,vi (p_s.Tick+1),.v (.slice none 0 0),.o 24,.s (mU p_s.Taken),vi p_s.Next]),(24,.own 75 8 (mA v1))]⟩ ?_ ?_
 ·refine sg ?_
  refine ⟨_,rfl,_,List.length_map _,fun _=>?_⟩
  refine wT [(2,.b 2 0),(3,.b 3 0),(4,.b 4 0),(5,.b 5 0),(32,.s (mI p_s.Now.Nodes)),(33,vi (p_s.Now.Nodes.length:Int)),(34,vi (0))] [(2,.box [.s (mI p_s.Now.Nodes),vi p_s.Now.Next,vi p_s.Now.Cookie,vi p_s.Tick,.s (mB p_s.Since),.s (mA p_s.Pasts),.s (mU p_s.Taken),vi p_s.Next]),(3,.box [.s (mI p_t.Nodes),vi p_t.Next,vi p_t.Cookie]),(4,.box [.v (.slice none 0 0),vi (0),vi (0),vi (0),.v (.slice none 0 0),.v (.slice none 0 0),.v (.slice none 0 0),vi (0)]),(5,.box [.s (mI p_t.Nodes),vi p_t.Next,vi p_t.Cookie,vi (p_s.Tick+1),.v (.slice none 0 0),.o 24,.s (mU p_s.Taken),vi p_s.Next]),(24,.own 75 8 (mA x2))] Q7 ⟨hr,J4⟩ rfl ?_
  refine bl ?_
  refine Ok.loop (fun (s1:Int×(List api_Past))=>⟨Cat.tab [(2,.b 2 0),(3,.b 3 0),(4,.b 4 0),(5,.b 5 0),(32,.s (mI p_s.Now.Nodes)),(33,vi (p_s.Now.Nodes.length:Int)),(34,vi s1.1)],[(2,.box [.s (mI p_s.Now.Nodes),vi p_s.Now.Next,vi p_s.Now.Cookie,vi p_s.Tick,.s (mB p_s.Since),.s (mA p_s.Pasts),.s (mU p_s.Taken),vi p_s.Next]),(3,.box [.s (mI p_t.Nodes),vi p_t.Next,vi p_t.Cookie]),(4,.box [.v (.slice none 0 0),vi (0),vi (0),vi (0),.v (.slice none 0 0),.v (.slice none 0 0),.v (.slice none 0 0),vi (0)]),(5,.box [.s (mI p_t.Nodes),vi p_t.Next,vi p_t.Cookie,vi (p_s.Tick+1),.v (.slice none 0 0),.o 24,.s (mU p_s.Taken),vi p_s.Next]),(24,.own 75 8 (mA s1.2))]⟩) (shot_Put_B1 p_s p_t) (s0:=(0,x2)) hv1 (wt Q7 ⟨⟨_,rfl,.refl _⟩,⟨_,rfl,.refl _⟩,⟨_,rfl,.refl _⟩,⟨_,rfl,.refl _⟩,⟨_,rfl,.refl _⟩,Q0⟩ rfl) ?_
  intro s1 y1 hB1 hy1
  unfold shot_Put_B1 at hB1
  refine sg ?_
  refine wT [(2,.b 2 0),(3,.b 3 0),(4,.b 4 0),(5,.b 5 0),(32,.s (mI p_s.Now.Nodes)),(33,vi (p_s.Now.Nodes.length:Int)),(34,vi s1.1),(35,vb (decide (s1.1 < (p_s.Now.Nodes.length:Int))))] [(2,.box [.s (mI p_s.Now.Nodes),vi p_s.Now.Next,vi p_s.Now.Cookie,vi p_s.Tick,.s (mB p_s.Since),.s (mA p_s.Pasts),.s (mU p_s.Taken),vi p_s.Next]),(3,.box [.s (mI p_t.Nodes),vi p_t.Next,vi p_t.Cookie]),(4,.box [.v (.slice none 0 0),vi (0),vi (0),vi (0),.v (.slice none 0 0),.v (.slice none 0 0),.v (.slice none 0 0),vi (0)]),(5,.box [.s (mI p_t.Nodes),vi p_t.Next,vi p_t.Cookie,vi (p_s.Tick+1),.v (.slice none 0 0),.o 24,.s (mU p_s.Taken),vi p_s.Next]),(24,.own 75 8 (mA s1.2))] Q8 ⟨hr,J4⟩ rfl ?_
  refine sq ?_
  refine cn 35 (decide (s1.1 < (p_s.Now.Nodes.length:Int))) rfl hB1 (fun hb hB1=>?_) fun hb hB1=>?_
  ·refine sk ?_
   obtain ⟨v2,hv2,hB1⟩:=bindS hB1
   refine Ok.seqw ⟨Cat.tab [(2,.b 2 0),(3,.b 3 0),(4,.b 4 0),(5,.b 5 0),(32,.s (mI p_s.Now.Nodes)),(33,vi (p_s.Now.Nodes.length:Int)),(34,vi s1.1)],[(2,.box [.s (mI p_s.Now.Nodes),vi p_s.Now.Next,vi p_s.Now.Cookie,vi p_s.Tick,.s (mB p_s.Since),.s (mA p_s.Pasts),.s (mU p_s.Taken),vi p_s.Next]),(3,.box [.s (mI p_t.Nodes),vi p_t.Next,vi p_t.Cookie]),(4,.box [.v (.slice none 0 0),vi (0),vi (0),vi (0),.v (.slice none 0 0),.v (.slice none 0 0),.v (.slice none 0 0),vi (0)]),(5,.box [.s (mI p_t.Nodes),vi p_t.Next,vi p_t.Cookie,vi (p_s.Tick+1),.v (.slice none 0 0),.o 24,.s (mU p_s.Taken),vi p_s.Next]),(24,.own 75 8 (mA v2))]⟩ ?_ ?_
   ·refine bl ?_
    refine sg ?_
    obtain ⟨x3,hx3,hv2⟩:=bindS hv2
    refine ⟨_,idx_nat hx3,_,idx_row hx3,_,rfl,_,rfl,?_⟩
    refine wT [(2,.b 2 0),(3,.b 3 0),(4,.b 4 0),(5,.b 5 0),(6,vi s1.1),(7,.b 7 0),(32,.s (mI p_s.Now.Nodes)),(33,vi (p_s.Now.Nodes.length:Int)),(34,vi s1.1)] [(2,.box [.s (mI p_s.Now.Nodes),vi p_s.Now.Next,vi p_s.Now.Cookie,vi p_s.Tick,.s (mB p_s.Since),.s (mA p_s.Pasts),.s (mU p_s.Taken),vi p_s.Next]),(3,.box [.s (mI p_t.Nodes),vi p_t.Next,vi p_t.Cookie]),(4,.box [.v (.slice none 0 0),vi (0),vi (0),vi (0),.v (.slice none 0 0),.v (.slice none 0 0),.v (.slice none 0 0),vi (0)]),(5,.box [.s (mI p_t.Nodes),vi p_t.Next,vi p_t.Cookie,vi (p_s.Tick+1),.v (.slice none 0 0),.o 24,.s (mU p_s.Taken),vi p_s.Next]),(24,.own 75 8 (mA s1.2)),(7,.box [vi x3.Ino,vi x3.Kind,vi x3.Links,.s (mD x3.Data),.s (mC x3.Ents),vi x3.Up])] ⟨lr,Q8⟩ ⟨hr,hr,J4⟩ rfl ?_
    refine sg ?_
    obtain ⟨x4,hx4,hv2⟩:=bindS hv2
    refine ⟨_,rfl,_,rfl,?_⟩
    refine CallOk.call (w_shot_find hx4) (LeL.refl _) ?_
    refine wT [(2,.b 2 0),(3,.b 3 0),(4,.b 4 0),(5,.b 5 0),(6,vi s1.1),(7,.b 7 0),(8,vi x4),(32,.s (mI p_s.Now.Nodes)),(33,vi (p_s.Now.Nodes.length:Int)),(34,vi s1.1)] [(2,.box [.s (mI p_s.Now.Nodes),vi p_s.Now.Next,vi p_s.Now.Cookie,vi p_s.Tick,.s (mB p_s.Since),.s (mA p_s.Pasts),.s (mU p_s.Taken),vi p_s.Next]),(3,.box [.s (mI p_t.Nodes),vi p_t.Next,vi p_t.Cookie]),(4,.box [.v (.slice none 0 0),vi (0),vi (0),vi (0),.v (.slice none 0 0),.v (.slice none 0 0),.v (.slice none 0 0),vi (0)]),(5,.box [.s (mI p_t.Nodes),vi p_t.Next,vi p_t.Cookie,vi (p_s.Tick+1),.v (.slice none 0 0),.o 24,.s (mU p_s.Taken),vi p_s.Next]),(24,.own 75 8 (mA s1.2)),(7,.box [vi x3.Ino,vi x3.Kind,vi x3.Links,.s (mD x3.Data),.s (mC x3.Ents),vi x3.Up])] ⟨lr,lr,Q8⟩ ⟨hr,hr,J4⟩ rfl ?_
    obtain ⟨v3,hv3,hv2⟩:=bindS hv2
    refine Ok.seqw ⟨Cat.tab [(2,.b 2 0),(3,.b 3 0),(4,.b 4 0),(5,.b 5 0),(6,vi s1.1),(7,.b 7 0),(32,.s (mI p_s.Now.Nodes)),(33,vi (p_s.Now.Nodes.length:Int)),(34,vi s1.1),(67,vb v3)],[(2,.box [.s (mI p_s.Now.Nodes),vi p_s.Now.Next,vi p_s.Now.Cookie,vi p_s.Tick,.s (mB p_s.Since),.s (mA p_s.Pasts),.s (mU p_s.Taken),vi p_s.Next]),(3,.box [.s (mI p_t.Nodes),vi p_t.Next,vi p_t.Cookie]),(4,.box [.v (.slice none 0 0),vi (0),vi (0),vi (0),.v (.slice none 0 0),.v (.slice none 0 0),.v (.slice none 0 0),vi (0)]),(5,.box [.s (mI p_t.Nodes),vi p_t.Next,vi p_t.Cookie,vi (p_s.Tick+1),.v (.slice none 0 0),.o 24,.s (mU p_s.Taken),vi p_s.Next]),(24,.own 75 8 (mA s1.2)),(7,.box [vi x3.Ino,vi x3.Kind,vi x3.Links,.s (mD x3.Data),.s (mC x3.Ents),vi x3.Up])]⟩ ?_ ?_
    ·refine Ok.draw (m:=24) (MD:=⟨[]⟩) (CH:=⟨[]⟩) Tryz.tok Tryz.mixed (by kernel_rfl) ?_
     refine ⟨_,rfl,_,rfl,_,rfl,?_⟩
     obtain ⟨c1,hg1,hv3⟩:=bindS hv3
     refine Br.itf hg1 (fun hb hg1=>?_) fun hb hg1=>?_
     ·cases hg1
      refine ⟨_,rfl,?_⟩
      refine ⟨_,rfl,?_⟩
      obtain ⟨c2,hg2,hv3⟩:=bindS hv3
      replace hg2:=iteT hg2
      obtain ⟨x7,hx7,hg2⟩:=bindS hg2
      obtain ⟨x8,hx8,hg2⟩:=bindS hg2
      refine ⟨_,rfl,_,⟨_,rfl,rfl⟩,_,rfl,_,⟨_,rfl,rfl⟩,_,rfl,_,⟨_,idx_nat hx7,_,idx_row hx7,rfl⟩,_,⟨_,rfl,rfl⟩,_,rfl,_,⟨_,rfl,rfl⟩,_,⟨_,.of_pure (w_shot_seen hx8) (LeL.refl _),rfl⟩,?_⟩
      cases hg2
      refine ⟨_,rfl,?_⟩
      refine ⟨Q0,?_⟩
      cases hv3
      exact wt ⟨lr,lr,Q8⟩ ⟨hr,hr,J4⟩ rfl
     obtain ⟨x5,hx5,hg1⟩:=bindS hg1
     obtain ⟨x6,hx6,hg1⟩:=bindS hg1
     refine ⟨_,⟨_,rfl,rfl⟩,_,rfl,_,⟨_,rfl,rfl⟩,_,rfl,_,⟨_,idx_nat hx5,_,idx_row hx5,rfl⟩,_,⟨_,rfl,rfl⟩,_,⟨_,.of_pure (w_shot_node hx6) (LeL.refl _),rfl⟩,_,rfl,?_⟩
     cases hg1
     refine ⟨_,rfl,?_⟩
     refine ⟨_,rfl,?_⟩
     obtain ⟨c2,hg3,hv3⟩:=bindS hv3
     refine Br.ite hg3 (fun hb hg3=>?_) fun hb hg3=>?_
     ·obtain ⟨x7,hx7,hg3⟩:=bindS hg3
      obtain ⟨x8,hx8,hg3⟩:=bindS hg3
      refine ⟨_,rfl,_,⟨_,rfl,rfl⟩,_,rfl,_,⟨_,rfl,rfl⟩,_,rfl,_,⟨_,idx_nat hx7,_,idx_row hx7,rfl⟩,_,⟨_,rfl,rfl⟩,_,rfl,_,⟨_,rfl,rfl⟩,_,⟨_,.of_pure (w_shot_seen hx8) (LeL.refl _),rfl⟩,?_⟩
      cases hg3
      refine ⟨_,rfl,?_⟩
      refine ⟨Q0,?_⟩
      cases hv3
      exact wt ⟨lr,lr,Q8⟩ ⟨hr,hr,J4⟩ rfl
     cases hg3
     refine ⟨_,rfl,?_⟩
     refine ⟨Q0,?_⟩
     cases hv3
     exact wt ⟨lr,lr,Q8⟩ ⟨hr,hr,J4⟩ rfl
    refine cn 67 (v3) rfl hv2 (fun hb hv2=>?_) fun hb hv2=>?_
    ·refine Ok.draw (m:=12) (MD:=⟨[]⟩) (CH:=⟨[]⟩) Tryz.tok Tryz.mixed (by kernel_rfl) ?_
     obtain ⟨x9,hx9,hv2⟩:=bindS hv2
     obtain ⟨hc2,hv2⟩:=chk_some hv2
     refine ⟨_,rfl,_,⟨_,rfl,rfl⟩,_,rfl,_,⟨_,rfl,rfl⟩,_,rfl,_,⟨_,idx_nat hx9,_,idx_row hx9,rfl⟩,_,⟨_,rfl,rfl⟩,_,rfl,_,⟨_,rfl,rfl⟩,_,⟨_,rfl,rfl⟩,_,rfl,_,rfl,Q0,rowsLen_map (f:=c_api_Past) (n:=8) (fun _=>rfl) ([(⟨x9,p_s.Tick+1,x3⟩:api_Past)]),app_b2 (f:=c_api_Past) (l:=s1.2) (l':=[(⟨x9,p_s.Tick+1,x3⟩:api_Past)]) hc2,_,(List.map_append (f:=c_api_Past) (l₁:=s1.2) (l₂:=[(⟨x9,p_s.Tick+1,x3⟩:api_Past)])).symm,_,rfl,?_⟩
     cases hv2
     exact wt Q7 ⟨hr,J4⟩ rfl
    refine sk ?_
    cases hv2
    exact wt Q7 ⟨hr,J4⟩ rfl
   refine rg ?_
   obtain ⟨hc3,hB1⟩:=chk_some hB1
   refine (Or.inl ⟨hc3,?_⟩)
   exact ⟨_,sj hB1,wt Q7 ⟨hr,J4⟩ rfl⟩
  refine xt ?_
  have hB1:=out_ret hB1 hy1
  cases hB1
  exact wt Q4 ⟨hr,J4⟩ rfl
 obtain ⟨v4,hv4,h⟩:=bindS h
 refine Ok.seqw ⟨Cat.tab [(4,.b 4 0),(5,.b 5 0)],[(4,.box [.v (.slice none 0 0),vi (0),vi (0),vi (0),.v (.slice none 0 0),.v (.slice none 0 0),.v (.slice none 0 0),vi (0)]),(5,.box [.s (mI p_t.Nodes),vi p_t.Next,vi p_t.Cookie,vi (p_s.Tick+1),.o 119,.o 24,.s (mU p_s.Taken),vi p_s.Next]),(119,.own 3 1 (mB v4)),(24,.own 75 8 (mA v1))]⟩ ?_ ?_
 ·refine sg ?_
  refine ⟨_,rfl,_,List.length_map _,fun _=>?_⟩
  refine wT [(2,.b 2 0),(4,.b 4 0),(5,.b 5 0),(84,.s (mI p_t.Nodes)),(85,vi (p_t.Nodes.length:Int)),(86,vi (0))] [(2,.box [.s (mI p_s.Now.Nodes),vi p_s.Now.Next,vi p_s.Now.Cookie,vi p_s.Tick,.s (mB p_s.Since),.s (mA p_s.Pasts),.s (mU p_s.Taken),vi p_s.Next]),(4,.box [.v (.slice none 0 0),vi (0),vi (0),vi (0),.v (.slice none 0 0),.v (.slice none 0 0),.v (.slice none 0 0),vi (0)]),(5,.box [.s (mI p_t.Nodes),vi p_t.Next,vi p_t.Cookie,vi (p_s.Tick+1),.v (.slice none 0 0),.o 24,.s (mU p_s.Taken),vi p_s.Next]),(24,.own 75 8 (mA v1))] Q6 J4 rfl ?_
  refine bl ?_
  refine Ok.loop (fun (s2:Int×(List Int))=>⟨Cat.tab [(2,.b 2 0),(4,.b 4 0),(5,.b 5 0),(84,.s (mI p_t.Nodes)),(85,vi (p_t.Nodes.length:Int)),(86,vi s2.1)],[(2,.box [.s (mI p_s.Now.Nodes),vi p_s.Now.Next,vi p_s.Now.Cookie,vi p_s.Tick,.s (mB p_s.Since),.s (mA p_s.Pasts),.s (mU p_s.Taken),vi p_s.Next]),(4,.box [.v (.slice none 0 0),vi (0),vi (0),vi (0),.v (.slice none 0 0),.v (.slice none 0 0),.v (.slice none 0 0),vi (0)]),(5,.box [.s (mI p_t.Nodes),vi p_t.Next,vi p_t.Cookie,vi (p_s.Tick+1),.o 119,.o 24,.s (mU p_s.Taken),vi p_s.Next]),(119,.own 3 1 (mB s2.2)),(24,.own 75 8 (mA v1))]⟩) (shot_Put_B2 p_t p_s) (s0:=(0,[])) hv4 ((Wk.ownb (b:=5) (q:=4) (id:=119) (E:=3) (K:=1) rfl rfl rfl).trans (wt Q6 ⟨⟨_,rfl,.refl _⟩,⟨_,rfl,.refl _⟩,⟨_,rfl,.refl _⟩,⟨_,rfl,.refl _⟩,⟨_,rfl,.refl _⟩,Q0⟩ rfl)) ?_
  intro s2 y2 hB2 hy2
  unfold shot_Put_B2 at hB2
  refine sg ?_
  refine wT [(2,.b 2 0),(4,.b 4 0),(5,.b 5 0),(84,.s (mI p_t.Nodes)),(85,vi (p_t.Nodes.length:Int)),(86,vi s2.1),(87,vb (decide (s2.1 < (p_t.Nodes.length:Int))))] [(2,.box [.s (mI p_s.Now.Nodes),vi p_s.Now.Next,vi p_s.Now.Cookie,vi p_s.Tick,.s (mB p_s.Since),.s (mA p_s.Pasts),.s (mU p_s.Taken),vi p_s.Next]),(4,.box [.v (.slice none 0 0),vi (0),vi (0),vi (0),.v (.slice none 0 0),.v (.slice none 0 0),.v (.slice none 0 0),vi (0)]),(5,.box [.s (mI p_t.Nodes),vi p_t.Next,vi p_t.Cookie,vi (p_s.Tick+1),.o 119,.o 24,.s (mU p_s.Taken),vi p_s.Next]),(119,.own 3 1 (mB s2.2)),(24,.own 75 8 (mA v1))] Q7 ⟨hr,J4⟩ rfl ?_
  refine sq ?_
  refine cn 87 (decide (s2.1 < (p_t.Nodes.length:Int))) rfl hB2 (fun hb hB2=>?_) fun hb hB2=>?_
  ·refine sk ?_
   refine sq ?_
   refine bl ?_
   refine sg ?_
   obtain ⟨x10,hx10,hB2⟩:=bindS hB2
   refine ⟨_,idx_nat hx10,_,idx_row hx10,_,rfl,_,rfl,?_⟩
   refine wT [(2,.b 2 0),(4,.b 4 0),(5,.b 5 0),(10,.b 10 0),(84,.s (mI p_t.Nodes)),(85,vi (p_t.Nodes.length:Int)),(86,vi s2.1)] [(2,.box [.s (mI p_s.Now.Nodes),vi p_s.Now.Next,vi p_s.Now.Cookie,vi p_s.Tick,.s (mB p_s.Since),.s (mA p_s.Pasts),.s (mU p_s.Taken),vi p_s.Next]),(4,.box [.v (.slice none 0 0),vi (0),vi (0),vi (0),.v (.slice none 0 0),.v (.slice none 0 0),.v (.slice none 0 0),vi (0)]),(5,.box [.s (mI p_t.Nodes),vi p_t.Next,vi p_t.Cookie,vi (p_s.Tick+1),.o 119,.o 24,.s (mU p_s.Taken),vi p_s.Next]),(119,.own 3 1 (mB s2.2)),(24,.own 75 8 (mA v1)),(10,.box [vi x10.Ino,vi x10.Kind,vi x10.Links,.s (mD x10.Data),.s (mC x10.Ents),vi x10.Up])] Q7 ⟨hr,hr,J4⟩ rfl ?_
   refine sg ?_
   refine ⟨_,rfl,?_⟩
   refine wT [(2,.b 2 0),(4,.b 4 0),(5,.b 5 0),(10,.b 10 0),(11,vi (p_s.Tick+1)),(84,.s (mI p_t.Nodes)),(85,vi (p_t.Nodes.length:Int)),(86,vi s2.1)] [(2,.box [.s (mI p_s.Now.Nodes),vi p_s.Now.Next,vi p_s.Now.Cookie,vi p_s.Tick,.s (mB p_s.Since),.s (mA p_s.Pasts),.s (mU p_s.Taken),vi p_s.Next]),(4,.box [.v (.slice none 0 0),vi (0),vi (0),vi (0),.v (.slice none 0 0),.v (.slice none 0 0),.v (.slice none 0 0),vi (0)]),(5,.box [.s (mI p_t.Nodes),vi p_t.Next,vi p_t.Cookie,vi (p_s.Tick+1),.o 119,.o 24,.s (mU p_s.Taken),vi p_s.Next]),(119,.own 3 1 (mB s2.2)),(24,.own 75 8 (mA v1)),(10,.box [vi x10.Ino,vi x10.Kind,vi x10.Links,.s (mD x10.Data),.s (mC x10.Ents),vi x10.Up])] Q8 ⟨hr,hr,J4⟩ rfl ?_
   obtain ⟨v5,hv5,hB2⟩:=bindS hB2
   refine Ok.seqw ⟨Cat.tab [(2,.b 2 0),(4,.b 4 0),(5,.b 5 0),(11,vi v5),(84,.s (mI p_t.Nodes)),(85,vi (p_t.Nodes.length:Int)),(86,vi s2.1)],[(2,.box [.s (mI p_s.Now.Nodes),vi p_s.Now.Next,vi p_s.Now.Cookie,vi p_s.Tick,.s (mB p_s.Since),.s (mA p_s.Pasts),.s (mU p_s.Taken),vi p_s.Next]),(4,.box [.v (.slice none 0 0),vi (0),vi (0),vi (0),.v (.slice none 0 0),.v (.slice none 0 0),.v (.slice none 0 0),vi (0)]),(5,.box [.s (mI p_t.Nodes),vi p_t.Next,vi p_t.Cookie,vi (p_s.Tick+1),.o 119,.o 24,.s (mU p_s.Taken),vi p_s.Next]),(119,.own 3 1 (mB s2.2)),(24,.own 75 8 (mA v1))]⟩ ?_ ?_
   ·refine sg ?_
    obtain ⟨x11,hx11,hv5⟩:=bindS hv5
    refine ⟨_,rfl,_,rfl,?_⟩
    refine CallOk.call (w_shot_find hx11) (LeL.refl _) ?_
    refine wT [(2,.b 2 0),(4,.b 4 0),(5,.b 5 0),(10,.b 10 0),(11,vi (p_s.Tick+1)),(12,vi x11),(84,.s (mI p_t.Nodes)),(85,vi (p_t.Nodes.length:Int)),(86,vi s2.1)] [(2,.box [.s (mI p_s.Now.Nodes),vi p_s.Now.Next,vi p_s.Now.Cookie,vi p_s.Tick,.s (mB p_s.Since),.s (mA p_s.Pasts),.s (mU p_s.Taken),vi p_s.Next]),(4,.box [.v (.slice none 0 0),vi (0),vi (0),vi (0),.v (.slice none 0 0),.v (.slice none 0 0),.v (.slice none 0 0),vi (0)]),(5,.box [.s (mI p_t.Nodes),vi p_t.Next,vi p_t.Cookie,vi (p_s.Tick+1),.o 119,.o 24,.s (mU p_s.Taken),vi p_s.Next]),(119,.own 3 1 (mB s2.2)),(24,.own 75 8 (mA v1)),(10,.box [vi x10.Ino,vi x10.Kind,vi x10.Links,.s (mD x10.Data),.s (mC x10.Ents),vi x10.Up])] ⟨lr,Q8⟩ ⟨hr,hr,J4⟩ rfl ?_
    obtain ⟨v6,hv6,hv5⟩:=bindS hv5
    refine Ok.seqw ⟨Cat.tab [(2,.b 2 0),(4,.b 4 0),(5,.b 5 0),(11,vi (p_s.Tick+1)),(12,vi x11),(84,.s (mI p_t.Nodes)),(85,vi (p_t.Nodes.length:Int)),(86,vi s2.1),(109,vb v6)],[(2,.box [.s (mI p_s.Now.Nodes),vi p_s.Now.Next,vi p_s.Now.Cookie,vi p_s.Tick,.s (mB p_s.Since),.s (mA p_s.Pasts),.s (mU p_s.Taken),vi p_s.Next]),(4,.box [.v (.slice none 0 0),vi (0),vi (0),vi (0),.v (.slice none 0 0),.v (.slice none 0 0),.v (.slice none 0 0),vi (0)]),(5,.box [.s (mI p_t.Nodes),vi p_t.Next,vi p_t.Cookie,vi (p_s.Tick+1),.o 119,.o 24,.s (mU p_s.Taken),vi p_s.Next]),(119,.own 3 1 (mB s2.2)),(24,.own 75 8 (mA v1))]⟩ ?_ ?_
    ·refine Ok.draw (m:=12) (MD:=⟨[]⟩) (CH:=⟨[]⟩) Tryz.tok Tryz.mixed (by kernel_rfl) ?_
     refine ⟨_,rfl,_,rfl,_,rfl,?_⟩
     obtain ⟨c3,hg4,hv6⟩:=bindS hv6
     refine Br.ite hg4 (fun hb hg4=>?_) fun hb hg4=>?_
     ·obtain ⟨x12,hx12,hg4⟩:=bindS hg4
      obtain ⟨x13,hx13,hg4⟩:=bindS hg4
      refine ⟨_,⟨_,rfl,rfl⟩,_,rfl,_,rfl,_,⟨_,rfl,rfl⟩,_,rfl,_,⟨_,idx_nat hx12,_,idx_row hx12,rfl⟩,_,⟨_,rfl,rfl⟩,_,⟨_,.of_pure (w_shot_node hx13) (LeL.refl _),rfl⟩,?_⟩
      cases hg4
      refine ⟨_,rfl,?_⟩
      refine ⟨Q0,?_⟩
      cases hv6
      exact wt ⟨lr,Q8⟩ ⟨hr,J4⟩ rfl
     cases hg4
     refine ⟨_,rfl,?_⟩
     refine ⟨Q0,?_⟩
     cases hv6
     exact wt ⟨lr,Q8⟩ ⟨hr,J4⟩ rfl
    refine cn 109 (v6) rfl hv5 (fun hb hv5=>?_) fun hb hv5=>?_
    ·refine rg ?_
     obtain ⟨x14,hx14,hv5⟩:=bindS hv5
     refine ⟨_,rfl,_,idx_nat hx14,_,idx_row hx14,_,rfl,?_⟩
     cases hv5
     exact wt Q7 ⟨hr,J4⟩ rfl
    refine sk ?_
    cases hv5
    exact wt Q7 ⟨hr,J4⟩ rfl
   refine rg ?_
   obtain ⟨hc4,hB2⟩:=chk_some hB2
   refine ⟨_,rfl,Or.inl ⟨rowsLen_map (f:=Go.Cat.encI) (n:=1) (fun _=>rfl) ([v5]),app_b2 (f:=Go.Cat.encI) (l:=s2.2) (l':=[v5]) hc4,_,(List.map_append (f:=Go.Cat.encI) (l₁:=s2.2) (l₂:=[v5])).symm,_,rfl,?_⟩⟩
   refine wT [(2,.b 2 0),(4,.b 4 0),(5,.b 5 0),(84,.s (mI p_t.Nodes)),(85,vi (p_t.Nodes.length:Int)),(86,vi s2.1)] [(2,.box [.s (mI p_s.Now.Nodes),vi p_s.Now.Next,vi p_s.Now.Cookie,vi p_s.Tick,.s (mB p_s.Since),.s (mA p_s.Pasts),.s (mU p_s.Taken),vi p_s.Next]),(4,.box [.v (.slice none 0 0),vi (0),vi (0),vi (0),.v (.slice none 0 0),.v (.slice none 0 0),.v (.slice none 0 0),vi (0)]),(5,.box [.s (mI p_t.Nodes),vi p_t.Next,vi p_t.Cookie,vi (p_s.Tick+1),.o 119,.o 24,.s (mU p_s.Taken),vi p_s.Next]),(119,.own 3 1 (mB (s2.2++[v5]))),(24,.own 75 8 (mA v1))] Q6 ⟨hr,J4⟩ rfl ?_
   refine rg ?_
   obtain ⟨hc5,hB2⟩:=chk_some hB2
   refine (Or.inl ⟨hc5,?_⟩)
   exact ⟨_,sj hB2,wt Q6 ⟨hr,J4⟩ rfl⟩
  refine xt ?_
  have hB2:=out_ret hB2 hy2
  cases hB2
  exact wt Q2 J4 rfl
 refine sg ?_
 refine ⟨_,rfl,_,rfl,?_⟩
 refine wT [(4,.b 4 0)] [(4,.box [.s (mI p_t.Nodes),vi p_t.Next,vi p_t.Cookie,vi (p_s.Tick+1),.o 119,.o 24,.s (mU p_s.Taken),vi p_s.Next]),(119,.own 3 1 (mB v4)),(24,.own 75 8 (mA v1))] Q1 J3 rfl ?_
 refine rt ?_
 cases h
 exact ⟨_,rfl,(Fz.a (.cons Fz.s (.cons Fz.v (.cons Fz.v (.cons Fz.v (.cons (Fz.o rfl) (.cons (Fz.o rfl) (.cons Fz.s (.cons Fz.v .nil)))))))))⟩
set_option maxHeartbeats 4000000 in
theorem wg_shotN2 {p_ino} {p_h1} {p_h3} {p_h5} {r} (h:shotN13 p_ino p_h1 p_h3 p_h5=some r):CallOk Tryz.prog 75 [(vi p_ino),(.b 1000 0),(.b 1002 0),(.b 1004 0),(.b 1006 0)] ⟨noSlots,[(1000,.box [(.m 1001)]),(1001,.mp true (List.map (fun p=>(p.1,c_struct_struct p.2)) p_h1)),(1002,.box [(.m 1003)]),(1003,.mp true (List.map (fun p=>(p.1,c_api_Node p.2)) p_h3)),(1004,.box [(.o 1005)]),(1005,.own 55 6 (mI p_h5)),(1006,.box [(.c (.func 75) [] [(.b 1000 0),(.b 1002 0),(.b 1004 0),(.b 1006 0)])])]⟩ fun x s=>x=(vb r.1)∧s.H=[(1000,.box [(.m 1001)]),(1001,.mp true (List.map (fun p=>(p.1,c_struct_struct p.2)) r.2.1)),(1002,.box [(.m 1003)]),(1003,.mp true (List.map (fun p=>(p.1,c_api_Node p.2)) r.2.2.1)),(1004,.box [(.o 999)]),(1006,.box [(.c (.func 75) [] [(.b 1000 0),(.b 1002 0),(.b 1004 0),(.b 1006 0)])]),(999,.own 55 6 (mI r.2.2.2))]:=by
 unfold shotN13 at h
 refine fixO_ind (p:=fun (a:Int×(List (Int×struct_struct))×(List (Int×api_Node))×(List api_Node)) (r:Bool×(List (Int×struct_struct))×(List (Int×api_Node))×(List api_Node))=>CallOk Tryz.prog 75 [vi a.1,.b 1000 0,.b 1002 0,.b 1004 0,.b 1006 0] ⟨noSlots,[(1000,.box [.m 1001]),(1001,.mp true (List.map (fun p=>(p.1,c_struct_struct p.2)) a.2.1)),(1002,.box [.m 1003]),(1003,.mp true (List.map (fun p=>(p.1,c_api_Node p.2)) a.2.2.1)),(1004,.box [.o 1005]),(1005,.own 55 6 (mI a.2.2.2)),(1006,.box [.c (.func 75) [] [.b 1000 0,.b 1002 0,.b 1004 0,.b 1006 0]])]⟩ fun x s=>x=(vb r.1)∧s.H=[(1000,.box [.m 1001]),(1001,.mp true (List.map (fun p=>(p.1,c_struct_struct p.2)) r.2.1)),(1002,.box [.m 1003]),(1003,.mp true (List.map (fun p=>(p.1,c_api_Node p.2)) r.2.2.1)),(1004,.box [.o 999]),(1006,.box [.c (.func 75) [] [.b 1000 0,.b 1002 0,.b 1004 0,.b 1006 0]]),(999,.own 55 6 (mI r.2.2.2))]) (fun self_f IH0 a r h=>?_) h
 obtain ⟨p_ino,p_h1,p_h3,p_h5⟩:=a
 have IH:∀{p_ino:Int} {p_h1:List (Int×struct_struct)} {p_h3:List (Int×api_Node)} {p_h5:List api_Node} {r:Bool×(List (Int×struct_struct))×(List (Int×api_Node))×(List api_Node)},self_f (p_ino,p_h1,p_h3,p_h5)=some r→CallOk Tryz.prog 75 [vi p_ino,.b 1000 0,.b 1002 0,.b 1004 0,.b 1006 0] ⟨noSlots,[(1000,.box [.m 1001]),(1001,.mp true (List.map (fun p=>(p.1,c_struct_struct p.2)) p_h1)),(1002,.box [.m 1003]),(1003,.mp true (List.map (fun p=>(p.1,c_api_Node p.2)) p_h3)),(1004,.box [.o 1005]),(1005,.own 55 6 (mI p_h5)),(1006,.box [.c (.func 75) [] [.b 1000 0,.b 1002 0,.b 1004 0,.b 1006 0]])]⟩ fun x s=>x=(vb r.1)∧s.H=[(1000,.box [.m 1001]),(1001,.mp true (List.map (fun p=>(p.1,c_struct_struct p.2)) r.2.1)),(1002,.box [.m 1003]),(1003,.mp true (List.map (fun p=>(p.1,c_api_Node p.2)) r.2.2.1)),(1004,.box [.o 999]),(1006,.box [.c (.func 75) [] [.b 1000 0,.b 1002 0,.b 1004 0,.b 1006 0]]),(999,.own 55 6 (mI r.2.2.2))]:=fun h=>IH0 _ _ h
 clear IH0
 change shotN17 self_f p_ino p_h1 p_h3 p_h5=some r at h
 show CallOk Tryz.prog 75 [vi p_ino,.b 1000 0,.b 1002 0,.b 1004 0,.b 1006 0] ⟨noSlots,[(1000,.box [.m 1001]),(1001,.mp true (List.map (fun p=>(p.1,c_struct_struct p.2)) p_h1)),(1002,.box [.m 1003]),(1003,.mp true (List.map (fun p=>(p.1,c_api_Node p.2)) p_h3)),(1004,.box [.o 1005]),(1005,.own 55 6 (mI p_h5)),(1006,.box [.c (.func 75) [] [.b 1000 0,.b 1002 0,.b 1004 0,.b 1006 0]])]⟩ fun x s=>x=(vb r.1)∧s.H=[(1000,.box [.m 1001]),(1001,.mp true (List.map (fun p=>(p.1,c_struct_struct p.2)) r.2.1)),(1002,.box [.m 1003]),(1003,.mp true (List.map (fun p=>(p.1,c_api_Node p.2)) r.2.2.1)),(1004,.box [.o 999]),(1006,.box [.c (.func 75) [] [.b 1000 0,.b 1002 0,.b 1004 0,.b 1006 0]]),(999,.own 55 6 (mI r.2.2.2))]
 refine pgen_of_ok (n:=52) (c:=Tryz.f75.body.getD .skip) Tryz.tok Tryz.func75 (by kernel_rfl) rfl rfl (Nat.le_of_ble_eq_true rfl) ?_
 unfold shotN17 at h
 refine wT [(0,vi p_ino),(1,.b 1000 0),(2,.b 1002 0),(3,.b 1004 0),(4,.b 1006 0)] [(1000,.box [.m 1001]),(1001,.mp true (List.map (fun p=>(p.1,c_struct_struct p.2)) p_h1)),(1002,.box [.m 1003]),(1003,.mp true (List.map (fun p=>(p.1,c_api_Node p.2)) p_h3)),(1004,.box [.o 1005]),(1005,.own 55 6 (mI p_h5)),(1006,.box [.c (.func 75) [] [.b 1000 0,.b 1002 0,.b 1004 0,.b 1006 0]])] Q5 ⟨⟨_,rfl,.refl _⟩,⟨_,rfl,.refl _⟩,⟨_,rfl,.refl _⟩,⟨_,rfl,.refl _⟩,⟨_,rfl,.refl _⟩,⟨_,rfl,.refl _⟩,⟨_,rfl,.refl _⟩,Q0⟩ rfl ?_
 refine sg ?_
 refine wT [(0,vi p_ino),(1,.b 1000 0),(2,.b 1002 0),(3,.b 1004 0),(4,.b 1006 0)] [(1000,.box [.m 1001]),(1001,.mp true (List.map (fun p=>(p.1,c_struct_struct p.2)) p_h1)),(1002,.box [.m 1003]),(1003,.mp true (List.map (fun p=>(p.1,c_api_Node p.2)) p_h3)),(1004,.box [.o 1005]),(1005,.own 55 6 (mI p_h5)),(1006,.box [.c (.func 75) [] [.b 1000 0,.b 1002 0,.b 1004 0,.b 1006 0]])] Q5 ⟨⟨_,rfl,.refl _⟩,⟨_,rfl,.refl _⟩,⟨_,rfl,.refl _⟩,⟨_,rfl,.refl _⟩,⟨_,rfl,.refl _⟩,⟨_,rfl,.refl _⟩,⟨_,rfl,.refl _⟩,Q0⟩ rfl ?_
 refine sq ?_
 refine sg ?_
 obtain ⟨x1,hx1,h⟩:=bindS h
 refine ⟨_,rfl,_,lk_val c_struct_struct (z:=((⟨⟩:struct_struct):struct_struct)) hx1,_,lk_some c_struct_struct p_ino p_h1,_,rfl,?_⟩
 refine wT [(0,vi p_ino),(1,.b 1000 0),(2,.b 1002 0),(3,.b 1004 0),(4,.b 1006 0),(8,vb ((mget p_ino p_h1).isSome))] [(1000,.box [.m 1001]),(1001,.mp true (List.map (fun p=>(p.1,c_struct_struct p.2)) p_h1)),(1002,.box [.m 1003]),(1003,.mp true (List.map (fun p=>(p.1,c_api_Node p.2)) p_h3)),(1004,.box [.o 1005]),(1005,.own 55 6 (mI p_h5)),(1006,.box [.c (.func 75) [] [.b 1000 0,.b 1002 0,.b 1004 0,.b 1006 0]])] Q6 ⟨⟨_,rfl,.refl _⟩,⟨_,rfl,.refl _⟩,⟨_,rfl,.refl _⟩,⟨_,rfl,.refl _⟩,⟨_,rfl,.refl _⟩,⟨_,rfl,.refl _⟩,⟨_,rfl,.refl _⟩,Q0⟩ rfl ?_
 refine sg ?_
 refine wT [(0,vi p_ino),(1,.b 1000 0),(2,.b 1002 0),(3,.b 1004 0),(4,.b 1006 0),(20,vb ((mget p_ino p_h1).isSome))] [(1000,.box [.m 1001]),(1001,.mp true (List.map (fun p=>(p.1,c_struct_struct p.2)) p_h1)),(1002,.box [.m 1003]),(1003,.mp true (List.map (fun p=>(p.1,c_api_Node p.2)) p_h3)),(1004,.box [.o 1005]),(1005,.own 55 6 (mI p_h5)),(1006,.box [.c (.func 75) [] [.b 1000 0,.b 1002 0,.b 1004 0,.b 1006 0]])] Q6 ⟨⟨_,rfl,.refl _⟩,⟨_,rfl,.refl _⟩,⟨_,rfl,.refl _⟩,⟨_,rfl,.refl _⟩,⟨_,rfl,.refl _⟩,⟨_,rfl,.refl _⟩,⟨_,rfl,.refl _⟩,Q0⟩ rfl ?_
 refine cn 20 ((mget p_ino p_h1).isSome) rfl h (fun hb h=>?_) fun hb h=>?_
 ·refine sg ?_
  refine wT [(6,vb true)] [(1000,.box [.m 1001]),(1001,.mp true (List.map (fun p=>(p.1,c_struct_struct p.2)) p_h1)),(1002,.box [.m 1003]),(1003,.mp true (List.map (fun p=>(p.1,c_api_Node p.2)) p_h3)),(1004,.box [.o 1005]),(1005,.own 55 6 (mI p_h5)),(1006,.box [.c (.func 75) [] [.b 1000 0,.b 1002 0,.b 1004 0,.b 1006 0]])] Q1 ⟨⟨_,rfl,.refl _⟩,⟨_,rfl,.refl _⟩,⟨_,rfl,.refl _⟩,⟨_,rfl,.refl _⟩,⟨_,rfl,.refl _⟩,⟨_,rfl,.refl _⟩,⟨_,rfl,.refl _⟩,Q0⟩ rfl ?_
  refine rt ?_
  cases h
  exact (Wk.mv (i:=1005) (d:=999) rfl rfl rfl).trans (wt Q1 ⟨⟨_,rfl,.refl _⟩,⟨_,rfl,.refl _⟩,⟨_,rfl,.refl _⟩,⟨_,rfl,.refl _⟩,⟨_,rfl,.refl _⟩,⟨_,rfl,.refl _⟩,⟨_,rfl,.refl _⟩,Q0⟩ rfl)
 refine sk ?_
 refine sg ?_
 obtain ⟨hc1,h⟩:=chk_some h
 refine ⟨_,rfl,hc1.1,Nat.lt_of_le_of_lt (Nat.le_of_eq (List.length_map _)) hc1.2,_,mset_map c_struct_struct p_ino (⟨⟩:struct_struct) p_h1,?_⟩
 refine wT [(0,vi p_ino),(2,.b 1002 0),(3,.b 1004 0),(4,.b 1006 0)] [(1002,.box [.m 1003]),(1003,.mp true (List.map (fun p=>(p.1,c_api_Node p.2)) p_h3)),(1004,.box [.o 1005]),(1005,.own 55 6 (mI p_h5)),(1006,.box [.c (.func 75) [] [.b 1000 0,.b 1002 0,.b 1004 0,.b 1006 0]]),(1000,.box [.m 1001]),(1001,.mp true (List.map (fun p=>(p.1,c_struct_struct p.2)) (mset p_ino (⟨⟩:struct_struct) p_h1)))] Q4 ⟨⟨_,rfl,.refl _⟩,⟨_,rfl,.refl _⟩,⟨_,rfl,.refl _⟩,⟨_,rfl,.refl _⟩,⟨_,rfl,.refl _⟩,⟨_,rfl,.refl _⟩,⟨_,rfl,.refl _⟩,Q0⟩ rfl ?_
 refine sg ?_
 obtain ⟨x2,hx2,h⟩:=bindS h
 refine ⟨_,rfl,_,lk_val c_api_Node (z:=((⟨0,0,0,[],[],0⟩:api_Node):api_Node)) hx2,_,lk_some c_api_Node p_ino p_h3,_,rfl,?_⟩
 refine wT [(3,.b 1004 0),(4,.b 1006 0),(9,.b 9 0),(10,vb ((mget p_ino p_h3).isSome))] [(1004,.box [.o 1005]),(1005,.own 55 6 (mI p_h5)),(1006,.box [.c (.func 75) [] [.b 1000 0,.b 1002 0,.b 1004 0,.b 1006 0]]),(1000,.box [.m 1001]),(1001,.mp true (List.map (fun p=>(p.1,c_struct_struct p.2)) (mset p_ino (⟨⟩:struct_struct) p_h1))),(1002,.box [.m 1003]),(1003,.mp true (List.map (fun p=>(p.1,c_api_Node p.2)) p_h3)),(9,.box [vi x2.Ino,vi x2.Kind,vi x2.Links,.s (mD x2.Data),.s (mC x2.Ents),vi x2.Up])] Q4 ⟨⟨_,rfl,.refl _⟩,⟨_,rfl,.refl _⟩,⟨_,rfl,.refl _⟩,⟨_,rfl,.refl _⟩,⟨_,rfl,.refl _⟩,⟨_,rfl,.refl _⟩,⟨_,rfl,.refl _⟩,⟨_,rfl,.refl _⟩,Q0⟩ rfl ?_
 refine sq ?_
 refine sg ?_
 refine wT [(3,.b 1004 0),(4,.b 1006 0),(9,.b 9 0),(31,vb (!(mget p_ino p_h3).isSome))] [(1004,.box [.o 1005]),(1005,.own 55 6 (mI p_h5)),(1006,.box [.c (.func 75) [] [.b 1000 0,.b 1002 0,.b 1004 0,.b 1006 0]]),(1000,.box [.m 1001]),(1001,.mp true (List.map (fun p=>(p.1,c_struct_struct p.2)) (mset p_ino (⟨⟩:struct_struct) p_h1))),(1002,.box [.m 1003]),(1003,.mp true (List.map (fun p=>(p.1,c_api_Node p.2)) p_h3)),(9,.box [vi x2.Ino,vi x2.Kind,vi x2.Links,.s (mD x2.Data),.s (mC x2.Ents),vi x2.Up])] Q4 ⟨⟨_,rfl,.refl _⟩,⟨_,rfl,.refl _⟩,⟨_,rfl,.refl _⟩,⟨_,rfl,.refl _⟩,⟨_,rfl,.refl _⟩,⟨_,rfl,.refl _⟩,⟨_,rfl,.refl _⟩,⟨_,rfl,.refl _⟩,Q0⟩ rfl ?_
 refine cn 31 (!(mget p_ino p_h3).isSome) rfl h (fun hb h=>?_) fun hb h=>?_
 ·refine sg ?_
  refine wT [(6,vb false)] [(1000,.box [.m 1001]),(1001,.mp true (List.map (fun p=>(p.1,c_struct_struct p.2)) (mset p_ino (⟨⟩:struct_struct) p_h1))),(1002,.box [.m 1003]),(1003,.mp true (List.map (fun p=>(p.1,c_api_Node p.2)) p_h3)),(1004,.box [.o 1005]),(1005,.own 55 6 (mI p_h5)),(1006,.box [.c (.func 75) [] [.b 1000 0,.b 1002 0,.b 1004 0,.b 1006 0]])] Q1 ⟨⟨_,rfl,.refl _⟩,⟨_,rfl,.refl _⟩,⟨_,rfl,.refl _⟩,⟨_,rfl,.refl _⟩,⟨_,rfl,.refl _⟩,⟨_,rfl,.refl _⟩,⟨_,rfl,.refl _⟩,Q0⟩ rfl ?_
  refine rt ?_
  cases h
  exact (Wk.mv (i:=1005) (d:=999) rfl rfl rfl).trans (wt Q1 ⟨⟨_,rfl,.refl _⟩,⟨_,rfl,.refl _⟩,⟨_,rfl,.refl _⟩,⟨_,rfl,.refl _⟩,⟨_,rfl,.refl _⟩,⟨_,rfl,.refl _⟩,⟨_,rfl,.refl _⟩,Q0⟩ rfl)
 refine sk ?_
 refine sq ?_
 refine Ok.wk (Wk.mv (i:=1005) (d:=999) rfl rfl rfl) ?_
 refine rg ?_
 obtain ⟨hc2,h⟩:=chk_some h
 refine ⟨_,rfl,_,rfl,Or.inl ⟨rowsLen_map (f:=c_api_Node) (n:=6) (fun _=>rfl) ([x2]),app_b2 (f:=c_api_Node) (l:=p_h5) (l':=[x2]) hc2,_,(List.map_append (f:=c_api_Node) (l₁:=p_h5) (l₂:=[x2])).symm,_,rfl,?_⟩⟩
 refine wT [(4,.b 1006 0),(9,.b 9 0)] [(1006,.box [.c (.func 75) [] [.b 1000 0,.b 1002 0,.b 1004 0,.b 1006 0]]),(1000,.box [.m 1001]),(1001,.mp true (List.map (fun p=>(p.1,c_struct_struct p.2)) (mset p_ino (⟨⟩:struct_struct) p_h1))),(1002,.box [.m 1003]),(1003,.mp true (List.map (fun p=>(p.1,c_api_Node p.2)) p_h3)),(1004,.box [.o 999]),(999,.own 55 6 (mI (p_h5++[x2]))),(9,.box [vi x2.Ino,vi x2.Kind,vi x2.Links,.s (mD x2.Data),.s (mC x2.Ents),vi x2.Up])] Q2 ⟨⟨_,rfl,.refl _⟩,⟨_,rfl,.refl _⟩,⟨_,rfl,.refl _⟩,⟨_,rfl,.refl _⟩,⟨_,rfl,.refl _⟩,⟨_,rfl,.refl _⟩,⟨_,rfl,.refl _⟩,⟨_,rfl,.refl _⟩,Q0⟩ rfl ?_
 refine sg ?_
 refine wT [(4,.b 1006 0),(9,.b 9 0),(11,vb true)] [(1006,.box [.c (.func 75) [] [.b 1000 0,.b 1002 0,.b 1004 0,.b 1006 0]]),(1000,.box [.m 1001]),(1001,.mp true (List.map (fun p=>(p.1,c_struct_struct p.2)) (mset p_ino (⟨⟩:struct_struct) p_h1))),(1002,.box [.m 1003]),(1003,.mp true (List.map (fun p=>(p.1,c_api_Node p.2)) p_h3)),(1004,.box [.o 999]),(999,.own 55 6 (mI (p_h5++[x2]))),(9,.box [vi x2.Ino,vi x2.Kind,vi x2.Links,.s (mD x2.Data),.s (mC x2.Ents),vi x2.Up])] Q3 ⟨⟨_,rfl,.refl _⟩,⟨_,rfl,.refl _⟩,⟨_,rfl,.refl _⟩,⟨_,rfl,.refl _⟩,⟨_,rfl,.refl _⟩,⟨_,rfl,.refl _⟩,⟨_,rfl,.refl _⟩,⟨_,rfl,.refl _⟩,Q0⟩ rfl ?_
 obtain ⟨v1,hv1,h⟩:=bindS h
 refine Ok.seqw ⟨Cat.tab [(11,vb v1.1)],[(1000,.box [.m 1001]),(1001,.mp true (List.map (fun p=>(p.1,c_struct_struct p.2)) v1.2.1)),(1002,.box [.m 1003]),(1003,.mp true (List.map (fun p=>(p.1,c_api_Node p.2)) v1.2.2.1)),(1004,.box [.o 999]),(999,.own 55 6 (mI v1.2.2.2)),(1006,.box [.c (.func 75) [] [.b 1000 0,.b 1002 0,.b 1004 0,.b 1006 0]])]⟩ ?_ ?_
 ·refine sg ?_
  refine ⟨_,rfl,_,List.length_map _,fun _=>?_⟩
  refine wT [(4,.b 1006 0),(11,vb true),(37,.s (mC x2.Ents)),(38,vi (x2.Ents.length:Int)),(39,vi (0))] [(1006,.box [.c (.func 75) [] [.b 1000 0,.b 1002 0,.b 1004 0,.b 1006 0]]),(1000,.box [.m 1001]),(1001,.mp true (List.map (fun p=>(p.1,c_struct_struct p.2)) (mset p_ino (⟨⟩:struct_struct) p_h1))),(1002,.box [.m 1003]),(1003,.mp true (List.map (fun p=>(p.1,c_api_Node p.2)) p_h3)),(1004,.box [.o 999]),(999,.own 55 6 (mI (p_h5++[x2])))] Q5 ⟨⟨_,rfl,.refl _⟩,⟨_,rfl,.refl _⟩,⟨_,rfl,.refl _⟩,⟨_,rfl,.refl _⟩,⟨_,rfl,.refl _⟩,⟨_,rfl,.refl _⟩,⟨_,rfl,.refl _⟩,Q0⟩ rfl ?_
  refine bl ?_
  refine Ok.loop (fun (s1:Bool×Int×(List (Int×struct_struct))×(List (Int×api_Node))×(List api_Node))=>⟨Cat.tab [(4,.b 1006 0),(11,vb s1.1),(37,.s (mC x2.Ents)),(38,vi (x2.Ents.length:Int)),(39,vi s1.2.1)],[(1006,.box [.c (.func 75) [] [.b 1000 0,.b 1002 0,.b 1004 0,.b 1006 0]]),(1000,.box [.m 1001]),(1001,.mp true (List.map (fun p=>(p.1,c_struct_struct p.2)) s1.2.2.1)),(1002,.box [.m 1003]),(1003,.mp true (List.map (fun p=>(p.1,c_api_Node p.2)) s1.2.2.2.1)),(1004,.box [.o 999]),(999,.own 55 6 (mI s1.2.2.2.2))]⟩) (shotN15 x2 self_f) (s0:=(true,0,mset p_ino (⟨⟩:struct_struct) p_h1,p_h3,p_h5++[x2])) hv1 (wt Q5 ⟨⟨_,rfl,.refl _⟩,⟨_,rfl,.refl _⟩,⟨_,rfl,.refl _⟩,⟨_,rfl,.refl _⟩,⟨_,rfl,.refl _⟩,⟨_,rfl,.refl _⟩,⟨_,rfl,.refl _⟩,Q0⟩ rfl) ?_
  intro s1 y1 hB1 hy1
  unfold shotN15 at hB1
  refine sg ?_
  refine wT [(4,.b 1006 0),(11,vb s1.1),(37,.s (mC x2.Ents)),(38,vi (x2.Ents.length:Int)),(39,vi s1.2.1),(40,vb (decide (s1.2.1 < (x2.Ents.length:Int))))] [(1006,.box [.c (.func 75) [] [.b 1000 0,.b 1002 0,.b 1004 0,.b 1006 0]]),(1000,.box [.m 1001]),(1001,.mp true (List.map (fun p=>(p.1,c_struct_struct p.2)) s1.2.2.1)),(1002,.box [.m 1003]),(1003,.mp true (List.map (fun p=>(p.1,c_api_Node p.2)) s1.2.2.2.1)),(1004,.box [.o 999]),(999,.own 55 6 (mI s1.2.2.2.2))] Q6 ⟨⟨_,rfl,.refl _⟩,⟨_,rfl,.refl _⟩,⟨_,rfl,.refl _⟩,⟨_,rfl,.refl _⟩,⟨_,rfl,.refl _⟩,⟨_,rfl,.refl _⟩,⟨_,rfl,.refl _⟩,Q0⟩ rfl ?_
  refine sq ?_
  refine cn 40 (decide (s1.2.1 < (x2.Ents.length:Int))) rfl hB1 (fun hb hB1=>?_) fun hb hB1=>?_
  ·refine sk ?_
   obtain ⟨v2,hv2,hB1⟩:=bindS hB1
   refine Ok.seqw ⟨Cat.tab [(4,.b 1006 0),(11,vb v2.1),(37,.s (mC x2.Ents)),(38,vi (x2.Ents.length:Int)),(39,vi s1.2.1)],[(1006,.box [.c (.func 75) [] [.b 1000 0,.b 1002 0,.b 1004 0,.b 1006 0]]),(1000,.box [.m 1001]),(1001,.mp true (List.map (fun p=>(p.1,c_struct_struct p.2)) v2.2.1)),(1002,.box [.m 1003]),(1003,.mp true (List.map (fun p=>(p.1,c_api_Node p.2)) v2.2.2.1)),(1004,.box [.o 999]),(999,.own 55 6 (mI v2.2.2.2))]⟩ ?_ ?_
   ·refine bl ?_
    refine sg ?_
    obtain ⟨x3,hx3,hv2⟩:=bindS hv2
    refine ⟨_,idx_nat hx3,_,idx_row hx3,_,rfl,_,rfl,?_⟩
    refine wT [(4,.b 1006 0),(11,vb s1.1),(13,.b 13 0),(37,.s (mC x2.Ents)),(38,vi (x2.Ents.length:Int)),(39,vi s1.2.1)] [(1006,.box [.c (.func 75) [] [.b 1000 0,.b 1002 0,.b 1004 0,.b 1006 0]]),(1000,.box [.m 1001]),(1001,.mp true (List.map (fun p=>(p.1,c_struct_struct p.2)) s1.2.2.1)),(1002,.box [.m 1003]),(1003,.mp true (List.map (fun p=>(p.1,c_api_Node p.2)) s1.2.2.2.1)),(1004,.box [.o 999]),(999,.own 55 6 (mI s1.2.2.2.2)),(13,.box [vs x3.Name,vi x3.Ino,vi x3.Cookie])] Q6 ⟨⟨_,rfl,.refl _⟩,⟨_,rfl,.refl _⟩,⟨_,rfl,.refl _⟩,⟨_,rfl,.refl _⟩,⟨_,rfl,.refl _⟩,⟨_,rfl,.refl _⟩,⟨_,rfl,.refl _⟩,⟨_,rfl,.refl _⟩,Q0⟩ rfl ?_
    refine rg ?_
    obtain ⟨x4,hx4,hv2⟩:=bindS hv2
    refine ⟨_,rfl,_,rfl,?_⟩
    refine CallOk.gen (m:=[(1000,1000),(1001,1001),(1002,1002),(1003,1003),(1004,1004),(1005,999),(1006,1006)]) (n:=[(999,999)]) (IH hx4) (.cons (Ln.imm rfl) (.cons (Ln.b rfl) (.cons (Ln.b rfl) (.cons (Ln.b rfl) (.cons (Ln.b rfl) (.nil)))))) ⟨⟨1000,_,rfl,rfl,.box (.cons (Ln.mm rfl) (.nil))⟩,⟨1001,_,rfl,rfl,.refl rfl⟩,⟨1002,_,rfl,rfl,.box (.cons (Ln.mm rfl) (.nil))⟩,⟨1003,_,rfl,rfl,.refl rfl⟩,⟨1004,_,rfl,rfl,.box (.cons (Ln.o rfl) (.nil))⟩,⟨999,_,rfl,rfl,.refl rfl⟩,⟨1006,_,rfl,rfl,.box (.cons (Ln.c (.nil) (.cons (Ln.b rfl) (.cons (Ln.b rfl) (.cons (Ln.b rfl) (.cons (Ln.b rfl) (.nil)))))) (.nil))⟩,Q0⟩ rfl rfl rfl ?_
    obtain ⟨c1,hg1,hv2⟩:=bindS hv2
    refine Br.ite hg1 (fun hb hg1=>?_) fun hb hg1=>?_
    ·cases hg1
     cases hv2
     exact wt Q5 ⟨hr,hr,hr,J4⟩ rfl
    cases hg1
    cases hv2
    exact wt Q5 ⟨hr,hr,hr,J4⟩ rfl
   refine rg ?_
   obtain ⟨hc3,hB1⟩:=chk_some hB1
   refine (Or.inl ⟨hc3,?_⟩)
   exact ⟨_,sj hB1,wt Q5 ⟨hr,hr,hr,J4⟩ rfl⟩
  refine xt ?_
  have hB1:=out_ret hB1 hy1
  cases hB1
  exact wt Q1 ⟨hr,hr,hr,J4⟩ rfl
 refine sg ?_
 refine wT [(6,vb v1.1)] [(1000,.box [.m 1001]),(1001,.mp true (List.map (fun p=>(p.1,c_struct_struct p.2)) v1.2.1)),(1002,.box [.m 1003]),(1003,.mp true (List.map (fun p=>(p.1,c_api_Node p.2)) v1.2.2.1)),(1004,.box [.o 999]),(999,.own 55 6 (mI v1.2.2.2)),(1006,.box [.c (.func 75) [] [.b 1000 0,.b 1002 0,.b 1004 0,.b 1006 0]])] Q1 ⟨⟨_,rfl,.refl _⟩,⟨_,rfl,.refl _⟩,⟨_,rfl,.refl _⟩,⟨_,rfl,.refl _⟩,⟨_,rfl,.refl _⟩,⟨_,rfl,.refl _⟩,⟨_,rfl,.refl _⟩,Q0⟩ rfl ?_
 refine rt ?_
 cases h
 exact wt Q1 ⟨hr,hr,hr,J4⟩ rfl
set_option maxHeartbeats 4000000 in
theorem wg_shotN1 {p_ino} {p_h1} {p_h3} {r} (h:shot_had_1 p_ino p_h1 p_h3=some r):CallOk Tryz.prog 75 [(vi p_ino),(.b 1000 0),(.b 1002 0),(.b 1004 0),(.b 1005 0)] ⟨noSlots,[(1000,.box [(.m 1001)]),(1001,.mp true (List.map (fun p=>(p.1,c_struct_struct p.2)) p_h1)),(1002,.box [(.m 1003)]),(1003,.mp true (List.map (fun p=>(p.1,c_api_Node p.2)) p_h3)),(1004,.box [(.v (.slice none 0 0))]),(1005,.box [(.c (.func 75) [] [(.b 1000 0),(.b 1002 0),(.b 1004 0),(.b 1005 0)])])]⟩ fun x s=>x=(vb r.1)∧s.H=[(1000,.box [(.m 1001)]),(1001,.mp true (List.map (fun p=>(p.1,c_struct_struct p.2)) r.2.1)),(1002,.box [(.m 1003)]),(1003,.mp true (List.map (fun p=>(p.1,c_api_Node p.2)) r.2.2.1)),(1004,.box [(.o 35)]),(1005,.box [(.c (.func 75) [] [(.b 1000 0),(.b 1002 0),(.b 1004 0),(.b 1005 0)])]),(35,.own 55 6 (mI r.2.2.2))]:=by
 refine pgen_of_ok (n:=52) (c:=Tryz.f75.body.getD .skip) Tryz.tok Tryz.func75 (by kernel_rfl) rfl rfl (Nat.le_of_ble_eq_true rfl) ?_
 unfold shot_had_1 at h
 refine wT [(0,vi p_ino),(1,.b 1000 0),(2,.b 1002 0),(3,.b 1004 0),(4,.b 1005 0)] [(1000,.box [.m 1001]),(1001,.mp true (List.map (fun p=>(p.1,c_struct_struct p.2)) p_h1)),(1002,.box [.m 1003]),(1003,.mp true (List.map (fun p=>(p.1,c_api_Node p.2)) p_h3)),(1004,.box [.v (.slice none 0 0)]),(1005,.box [.c (.func 75) [] [.b 1000 0,.b 1002 0,.b 1004 0,.b 1005 0]])] Q5 ⟨⟨_,rfl,.refl _⟩,⟨_,rfl,.refl _⟩,⟨_,rfl,.refl _⟩,⟨_,rfl,.refl _⟩,⟨_,rfl,.refl _⟩,⟨_,rfl,.refl _⟩,Q0⟩ rfl ?_
 refine sg ?_
 refine wT [(0,vi p_ino),(1,.b 1000 0),(2,.b 1002 0),(3,.b 1004 0),(4,.b 1005 0)] [(1000,.box [.m 1001]),(1001,.mp true (List.map (fun p=>(p.1,c_struct_struct p.2)) p_h1)),(1002,.box [.m 1003]),(1003,.mp true (List.map (fun p=>(p.1,c_api_Node p.2)) p_h3)),(1004,.box [.v (.slice none 0 0)]),(1005,.box [.c (.func 75) [] [.b 1000 0,.b 1002 0,.b 1004 0,.b 1005 0]])] Q5 ⟨⟨_,rfl,.refl _⟩,⟨_,rfl,.refl _⟩,⟨_,rfl,.refl _⟩,⟨_,rfl,.refl _⟩,⟨_,rfl,.refl _⟩,⟨_,rfl,.refl _⟩,Q0⟩ rfl ?_
 refine sq ?_
 refine sg ?_
 obtain ⟨x1,hx1,h⟩:=bindS h
 refine ⟨_,rfl,_,lk_val c_struct_struct (z:=((⟨⟩:struct_struct):struct_struct)) hx1,_,lk_some c_struct_struct p_ino p_h1,_,rfl,?_⟩
 refine wT [(0,vi p_ino),(1,.b 1000 0),(2,.b 1002 0),(3,.b 1004 0),(4,.b 1005 0),(8,vb ((mget p_ino p_h1).isSome))] [(1000,.box [.m 1001]),(1001,.mp true (List.map (fun p=>(p.1,c_struct_struct p.2)) p_h1)),(1002,.box [.m 1003]),(1003,.mp true (List.map (fun p=>(p.1,c_api_Node p.2)) p_h3)),(1004,.box [.v (.slice none 0 0)]),(1005,.box [.c (.func 75) [] [.b 1000 0,.b 1002 0,.b 1004 0,.b 1005 0]])] Q6 ⟨⟨_,rfl,.refl _⟩,⟨_,rfl,.refl _⟩,⟨_,rfl,.refl _⟩,⟨_,rfl,.refl _⟩,⟨_,rfl,.refl _⟩,⟨_,rfl,.refl _⟩,Q0⟩ rfl ?_
 refine sg ?_
 refine wT [(0,vi p_ino),(1,.b 1000 0),(2,.b 1002 0),(3,.b 1004 0),(4,.b 1005 0),(20,vb ((mget p_ino p_h1).isSome))] [(1000,.box [.m 1001]),(1001,.mp true (List.map (fun p=>(p.1,c_struct_struct p.2)) p_h1)),(1002,.box [.m 1003]),(1003,.mp true (List.map (fun p=>(p.1,c_api_Node p.2)) p_h3)),(1004,.box [.v (.slice none 0 0)]),(1005,.box [.c (.func 75) [] [.b 1000 0,.b 1002 0,.b 1004 0,.b 1005 0]])] Q6 ⟨⟨_,rfl,.refl _⟩,⟨_,rfl,.refl _⟩,⟨_,rfl,.refl _⟩,⟨_,rfl,.refl _⟩,⟨_,rfl,.refl _⟩,⟨_,rfl,.refl _⟩,Q0⟩ rfl ?_
 refine cn 20 ((mget p_ino p_h1).isSome) rfl h (fun hb h=>?_) fun hb h=>?_
 ·refine sg ?_
  refine wT [(6,vb true)] [(1000,.box [.m 1001]),(1001,.mp true (List.map (fun p=>(p.1,c_struct_struct p.2)) p_h1)),(1002,.box [.m 1003]),(1003,.mp true (List.map (fun p=>(p.1,c_api_Node p.2)) p_h3)),(1004,.box [.v (.slice none 0 0)]),(1005,.box [.c (.func 75) [] [.b 1000 0,.b 1002 0,.b 1004 0,.b 1005 0]])] Q1 ⟨⟨_,rfl,.refl _⟩,⟨_,rfl,.refl _⟩,⟨_,rfl,.refl _⟩,⟨_,rfl,.refl _⟩,⟨_,rfl,.refl _⟩,⟨_,rfl,.refl _⟩,Q0⟩ rfl ?_
  refine rt ?_
  cases h
  exact (Wk.ownb (b:=1004) (q:=0) (id:=35) (E:=55) (K:=6) rfl rfl rfl).trans (wt Q1 ⟨⟨_,rfl,.refl _⟩,⟨_,rfl,.refl _⟩,⟨_,rfl,.refl _⟩,⟨_,rfl,.refl _⟩,⟨_,rfl,.refl _⟩,⟨_,rfl,.refl _⟩,⟨_,rfl,.refl _⟩,Q0⟩ rfl)
 refine sk ?_
 refine sg ?_
 obtain ⟨hc1,h⟩:=chk_some h
 refine ⟨_,rfl,hc1.1,Nat.lt_of_le_of_lt (Nat.le_of_eq (List.length_map _)) hc1.2,_,mset_map c_struct_struct p_ino (⟨⟩:struct_struct) p_h1,?_⟩
 refine wT [(0,vi p_ino),(2,.b 1002 0),(3,.b 1004 0),(4,.b 1005 0)] [(1002,.box [.m 1003]),(1003,.mp true (List.map (fun p=>(p.1,c_api_Node p.2)) p_h3)),(1004,.box [.v (.slice none 0 0)]),(1005,.box [.c (.func 75) [] [.b 1000 0,.b 1002 0,.b 1004 0,.b 1005 0]]),(1000,.box [.m 1001]),(1001,.mp true (List.map (fun p=>(p.1,c_struct_struct p.2)) (mset p_ino (⟨⟩:struct_struct) p_h1)))] Q4 ⟨⟨_,rfl,.refl _⟩,⟨_,rfl,.refl _⟩,⟨_,rfl,.refl _⟩,⟨_,rfl,.refl _⟩,⟨_,rfl,.refl _⟩,⟨_,rfl,.refl _⟩,Q0⟩ rfl ?_
 refine sg ?_
 obtain ⟨x2,hx2,h⟩:=bindS h
 refine ⟨_,rfl,_,lk_val c_api_Node (z:=((⟨0,0,0,[],[],0⟩:api_Node):api_Node)) hx2,_,lk_some c_api_Node p_ino p_h3,_,rfl,?_⟩
 refine wT [(3,.b 1004 0),(4,.b 1005 0),(9,.b 9 0),(10,vb ((mget p_ino p_h3).isSome))] [(1004,.box [.v (.slice none 0 0)]),(1005,.box [.c (.func 75) [] [.b 1000 0,.b 1002 0,.b 1004 0,.b 1005 0]]),(1000,.box [.m 1001]),(1001,.mp true (List.map (fun p=>(p.1,c_struct_struct p.2)) (mset p_ino (⟨⟩:struct_struct) p_h1))),(1002,.box [.m 1003]),(1003,.mp true (List.map (fun p=>(p.1,c_api_Node p.2)) p_h3)),(9,.box [vi x2.Ino,vi x2.Kind,vi x2.Links,.s (mD x2.Data),.s (mC x2.Ents),vi x2.Up])] Q4 ⟨⟨_,rfl,.refl _⟩,⟨_,rfl,.refl _⟩,⟨_,rfl,.refl _⟩,⟨_,rfl,.refl _⟩,⟨_,rfl,.refl _⟩,⟨_,rfl,.refl _⟩,⟨_,rfl,.refl _⟩,Q0⟩ rfl ?_
 refine sq ?_
 refine sg ?_
 refine wT [(3,.b 1004 0),(4,.b 1005 0),(9,.b 9 0),(31,vb (!(mget p_ino p_h3).isSome))] [(1004,.box [.v (.slice none 0 0)]),(1005,.box [.c (.func 75) [] [.b 1000 0,.b 1002 0,.b 1004 0,.b 1005 0]]),(1000,.box [.m 1001]),(1001,.mp true (List.map (fun p=>(p.1,c_struct_struct p.2)) (mset p_ino (⟨⟩:struct_struct) p_h1))),(1002,.box [.m 1003]),(1003,.mp true (List.map (fun p=>(p.1,c_api_Node p.2)) p_h3)),(9,.box [vi x2.Ino,vi x2.Kind,vi x2.Links,.s (mD x2.Data),.s (mC x2.Ents),vi x2.Up])] Q4 ⟨⟨_,rfl,.refl _⟩,⟨_,rfl,.refl _⟩,⟨_,rfl,.refl _⟩,⟨_,rfl,.refl _⟩,⟨_,rfl,.refl _⟩,⟨_,rfl,.refl _⟩,⟨_,rfl,.refl _⟩,Q0⟩ rfl ?_
 refine cn 31 (!(mget p_ino p_h3).isSome) rfl h (fun hb h=>?_) fun hb h=>?_
 ·refine sg ?_
  refine wT [(6,vb false)] [(1000,.box [.m 1001]),(1001,.mp true (List.map (fun p=>(p.1,c_struct_struct p.2)) (mset p_ino (⟨⟩:struct_struct) p_h1))),(1002,.box [.m 1003]),(1003,.mp true (List.map (fun p=>(p.1,c_api_Node p.2)) p_h3)),(1004,.box [.v (.slice none 0 0)]),(1005,.box [.c (.func 75) [] [.b 1000 0,.b 1002 0,.b 1004 0,.b 1005 0]])] Q1 ⟨⟨_,rfl,.refl _⟩,⟨_,rfl,.refl _⟩,⟨_,rfl,.refl _⟩,⟨_,rfl,.refl _⟩,⟨_,rfl,.refl _⟩,⟨_,rfl,.refl _⟩,Q0⟩ rfl ?_
  refine rt ?_
  cases h
  exact (Wk.ownb (b:=1004) (q:=0) (id:=35) (E:=55) (K:=6) rfl rfl rfl).trans (wt Q1 ⟨⟨_,rfl,.refl _⟩,⟨_,rfl,.refl _⟩,⟨_,rfl,.refl _⟩,⟨_,rfl,.refl _⟩,⟨_,rfl,.refl _⟩,⟨_,rfl,.refl _⟩,⟨_,rfl,.refl _⟩,Q0⟩ rfl)
 refine sk ?_
 refine sg ?_
 obtain ⟨hc2,h⟩:=chk_some h
 refine ⟨_,rfl,_,rfl,Or.inl ⟨rowsLen_map (f:=c_api_Node) (n:=6) (fun _=>rfl) ([x2]),app_b1 (f:=c_api_Node) (l':=[x2]) hc2,_,rfl,_,rfl,?_⟩⟩
 refine wT [(4,.b 1005 0),(9,.b 9 0)] [(1005,.box [.c (.func 75) [] [.b 1000 0,.b 1002 0,.b 1004 0,.b 1005 0]]),(1000,.box [.m 1001]),(1001,.mp true (List.map (fun p=>(p.1,c_struct_struct p.2)) (mset p_ino (⟨⟩:struct_struct) p_h1))),(1002,.box [.m 1003]),(1003,.mp true (List.map (fun p=>(p.1,c_api_Node p.2)) p_h3)),(1004,.box [.o 35]),(35,.own 55 6 (mI ([x2]))),(9,.box [vi x2.Ino,vi x2.Kind,vi x2.Links,.s (mD x2.Data),.s (mC x2.Ents),vi x2.Up])] Q2 ⟨⟨_,rfl,.refl _⟩,⟨_,rfl,.refl _⟩,⟨_,rfl,.refl _⟩,⟨_,rfl,.refl _⟩,⟨_,rfl,.refl _⟩,⟨_,rfl,.refl _⟩,⟨_,rfl,.refl _⟩,⟨_,rfl,.refl _⟩,Q0⟩ rfl ?_
 refine sg ?_
 refine wT [(4,.b 1005 0),(9,.b 9 0),(11,vb true)] [(1005,.box [.c (.func 75) [] [.b 1000 0,.b 1002 0,.b 1004 0,.b 1005 0]]),(1000,.box [.m 1001]),(1001,.mp true (List.map (fun p=>(p.1,c_struct_struct p.2)) (mset p_ino (⟨⟩:struct_struct) p_h1))),(1002,.box [.m 1003]),(1003,.mp true (List.map (fun p=>(p.1,c_api_Node p.2)) p_h3)),(1004,.box [.o 35]),(35,.own 55 6 (mI ([x2]))),(9,.box [vi x2.Ino,vi x2.Kind,vi x2.Links,.s (mD x2.Data),.s (mC x2.Ents),vi x2.Up])] Q3 ⟨⟨_,rfl,.refl _⟩,⟨_,rfl,.refl _⟩,⟨_,rfl,.refl _⟩,⟨_,rfl,.refl _⟩,⟨_,rfl,.refl _⟩,⟨_,rfl,.refl _⟩,⟨_,rfl,.refl _⟩,⟨_,rfl,.refl _⟩,Q0⟩ rfl ?_
 obtain ⟨v1,hv1,h⟩:=bindS h
 refine Ok.seqw ⟨Cat.tab [(11,vb v1.1)],[(1000,.box [.m 1001]),(1001,.mp true (List.map (fun p=>(p.1,c_struct_struct p.2)) v1.2.1)),(1002,.box [.m 1003]),(1003,.mp true (List.map (fun p=>(p.1,c_api_Node p.2)) v1.2.2.1)),(1004,.box [.o 35]),(35,.own 55 6 (mI v1.2.2.2)),(1005,.box [.c (.func 75) [] [.b 1000 0,.b 1002 0,.b 1004 0,.b 1005 0]])]⟩ ?_ ?_
 ·refine sg ?_
  refine ⟨_,rfl,_,List.length_map _,fun _=>?_⟩
  refine wT [(4,.b 1005 0),(11,vb true),(37,.s (mC x2.Ents)),(38,vi (x2.Ents.length:Int)),(39,vi (0))] [(1005,.box [.c (.func 75) [] [.b 1000 0,.b 1002 0,.b 1004 0,.b 1005 0]]),(1000,.box [.m 1001]),(1001,.mp true (List.map (fun p=>(p.1,c_struct_struct p.2)) (mset p_ino (⟨⟩:struct_struct) p_h1))),(1002,.box [.m 1003]),(1003,.mp true (List.map (fun p=>(p.1,c_api_Node p.2)) p_h3)),(1004,.box [.o 35]),(35,.own 55 6 (mI ([x2])))] Q5 ⟨⟨_,rfl,.refl _⟩,⟨_,rfl,.refl _⟩,⟨_,rfl,.refl _⟩,⟨_,rfl,.refl _⟩,⟨_,rfl,.refl _⟩,⟨_,rfl,.refl _⟩,⟨_,rfl,.refl _⟩,Q0⟩ rfl ?_
  refine bl ?_
  refine Ok.loop (fun (s1:Bool×Int×(List (Int×struct_struct))×(List (Int×api_Node))×(List api_Node))=>⟨Cat.tab [(4,.b 1005 0),(11,vb s1.1),(37,.s (mC x2.Ents)),(38,vi (x2.Ents.length:Int)),(39,vi s1.2.1)],[(1005,.box [.c (.func 75) [] [.b 1000 0,.b 1002 0,.b 1004 0,.b 1005 0]]),(1000,.box [.m 1001]),(1001,.mp true (List.map (fun p=>(p.1,c_struct_struct p.2)) s1.2.2.1)),(1002,.box [.m 1003]),(1003,.mp true (List.map (fun p=>(p.1,c_api_Node p.2)) s1.2.2.2.1)),(1004,.box [.o 35]),(35,.own 55 6 (mI s1.2.2.2.2))]⟩) (shotN21 x2) (s0:=(true,0,mset p_ino (⟨⟩:struct_struct) p_h1,p_h3,[x2])) hv1 (wt Q5 ⟨⟨_,rfl,.refl _⟩,⟨_,rfl,.refl _⟩,⟨_,rfl,.refl _⟩,⟨_,rfl,.refl _⟩,⟨_,rfl,.refl _⟩,⟨_,rfl,.refl _⟩,⟨_,rfl,.refl _⟩,Q0⟩ rfl) ?_
  intro s1 y1 hB1 hy1
  unfold shotN21 at hB1
  refine sg ?_
  refine wT [(4,.b 1005 0),(11,vb s1.1),(37,.s (mC x2.Ents)),(38,vi (x2.Ents.length:Int)),(39,vi s1.2.1),(40,vb (decide (s1.2.1 < (x2.Ents.length:Int))))] [(1005,.box [.c (.func 75) [] [.b 1000 0,.b 1002 0,.b 1004 0,.b 1005 0]]),(1000,.box [.m 1001]),(1001,.mp true (List.map (fun p=>(p.1,c_struct_struct p.2)) s1.2.2.1)),(1002,.box [.m 1003]),(1003,.mp true (List.map (fun p=>(p.1,c_api_Node p.2)) s1.2.2.2.1)),(1004,.box [.o 35]),(35,.own 55 6 (mI s1.2.2.2.2))] Q6 ⟨⟨_,rfl,.refl _⟩,⟨_,rfl,.refl _⟩,⟨_,rfl,.refl _⟩,⟨_,rfl,.refl _⟩,⟨_,rfl,.refl _⟩,⟨_,rfl,.refl _⟩,⟨_,rfl,.refl _⟩,Q0⟩ rfl ?_
  refine sq ?_
  refine cn 40 (decide (s1.2.1 < (x2.Ents.length:Int))) rfl hB1 (fun hb hB1=>?_) fun hb hB1=>?_
  ·refine sk ?_
   obtain ⟨v2,hv2,hB1⟩:=bindS hB1
   refine Ok.seqw ⟨Cat.tab [(4,.b 1005 0),(11,vb v2.1),(37,.s (mC x2.Ents)),(38,vi (x2.Ents.length:Int)),(39,vi s1.2.1)],[(1005,.box [.c (.func 75) [] [.b 1000 0,.b 1002 0,.b 1004 0,.b 1005 0]]),(1000,.box [.m 1001]),(1001,.mp true (List.map (fun p=>(p.1,c_struct_struct p.2)) v2.2.1)),(1002,.box [.m 1003]),(1003,.mp true (List.map (fun p=>(p.1,c_api_Node p.2)) v2.2.2.1)),(1004,.box [.o 35]),(35,.own 55 6 (mI v2.2.2.2))]⟩ ?_ ?_
   ·refine bl ?_
    refine sg ?_
    obtain ⟨x3,hx3,hv2⟩:=bindS hv2
    refine ⟨_,idx_nat hx3,_,idx_row hx3,_,rfl,_,rfl,?_⟩
    refine wT [(4,.b 1005 0),(11,vb s1.1),(13,.b 13 0),(37,.s (mC x2.Ents)),(38,vi (x2.Ents.length:Int)),(39,vi s1.2.1)] [(1005,.box [.c (.func 75) [] [.b 1000 0,.b 1002 0,.b 1004 0,.b 1005 0]]),(1000,.box [.m 1001]),(1001,.mp true (List.map (fun p=>(p.1,c_struct_struct p.2)) s1.2.2.1)),(1002,.box [.m 1003]),(1003,.mp true (List.map (fun p=>(p.1,c_api_Node p.2)) s1.2.2.2.1)),(1004,.box [.o 35]),(35,.own 55 6 (mI s1.2.2.2.2)),(13,.box [vs x3.Name,vi x3.Ino,vi x3.Cookie])] Q6 ⟨⟨_,rfl,.refl _⟩,⟨_,rfl,.refl _⟩,⟨_,rfl,.refl _⟩,⟨_,rfl,.refl _⟩,⟨_,rfl,.refl _⟩,⟨_,rfl,.refl _⟩,⟨_,rfl,.refl _⟩,⟨_,rfl,.refl _⟩,Q0⟩ rfl ?_
    refine rg ?_
    obtain ⟨x4,hx4,hv2⟩:=bindS hv2
    refine ⟨_,rfl,_,rfl,?_⟩
    refine CallOk.gen (m:=[(1000,1000),(1001,1001),(1002,1002),(1003,1003),(1004,1004),(1005,35),(1006,1005)]) (n:=[(999,35)]) (wg_shotN2 hx4) (.cons (Ln.imm rfl) (.cons (Ln.b rfl) (.cons (Ln.b rfl) (.cons (Ln.b rfl) (.cons (Ln.b rfl) (.nil)))))) ⟨⟨1000,_,rfl,rfl,.box (.cons (Ln.mm rfl) (.nil))⟩,⟨1001,_,rfl,rfl,.refl rfl⟩,⟨1002,_,rfl,rfl,.box (.cons (Ln.mm rfl) (.nil))⟩,⟨1003,_,rfl,rfl,.refl rfl⟩,⟨1004,_,rfl,rfl,.box (.cons (Ln.o rfl) (.nil))⟩,⟨35,_,rfl,rfl,.refl rfl⟩,⟨1005,_,rfl,rfl,.box (.cons (Ln.c (.nil) (.cons (Ln.b rfl) (.cons (Ln.b rfl) (.cons (Ln.b rfl) (.cons (Ln.b rfl) (.nil)))))) (.nil))⟩,Q0⟩ rfl rfl rfl ?_
    obtain ⟨c1,hg1,hv2⟩:=bindS hv2
    refine Br.ite hg1 (fun hb hg1=>?_) fun hb hg1=>?_
    ·cases hg1
     cases hv2
     exact wt Q5 ⟨hr,hr,hr,J4⟩ rfl
    cases hg1
    cases hv2
    exact wt Q5 ⟨hr,hr,hr,J4⟩ rfl
   refine rg ?_
   obtain ⟨hc3,hB1⟩:=chk_some hB1
   refine (Or.inl ⟨hc3,?_⟩)
   exact ⟨_,sj hB1,wt Q5 ⟨hr,hr,hr,J4⟩ rfl⟩
  refine xt ?_
  have hB1:=out_ret hB1 hy1
  cases hB1
  exact wt Q1 ⟨hr,hr,hr,J4⟩ rfl
 refine sg ?_
 refine wT [(6,vb v1.1)] [(1000,.box [.m 1001]),(1001,.mp true (List.map (fun p=>(p.1,c_struct_struct p.2)) v1.2.1)),(1002,.box [.m 1003]),(1003,.mp true (List.map (fun p=>(p.1,c_api_Node p.2)) v1.2.2.1)),(1004,.box [.o 35]),(35,.own 55 6 (mI v1.2.2.2)),(1005,.box [.c (.func 75) [] [.b 1000 0,.b 1002 0,.b 1004 0,.b 1005 0]])] Q1 ⟨⟨_,rfl,.refl _⟩,⟨_,rfl,.refl _⟩,⟨_,rfl,.refl _⟩,⟨_,rfl,.refl _⟩,⟨_,rfl,.refl _⟩,⟨_,rfl,.refl _⟩,⟨_,rfl,.refl _⟩,Q0⟩ rfl ?_
 refine rt ?_
 cases h
 exact wt Q1 ⟨hr,hr,hr,J4⟩ rfl
theorem w_shotN6 {p_a} {p_b} {r} (h:shot_had_2 p_a p_b=some r):Pure Tryz.prog 77 [(.a [(vi p_a.Ino),(vi p_a.Kind),(vi p_a.Links),(.s (mD p_a.Data)),(.s (mC p_a.Ents)),(vi p_a.Up)]),(.a [(vi p_b.Ino),(vi p_b.Kind),(vi p_b.Links),(.s (mD p_b.Data)),(.s (mC p_b.Ents)),(vi p_b.Up)])] (vi r):=by
 refine po Tryz.tok 10 Tryz.func77 (by kernel_rfl) rfl rfl rfl ?_
 unfold shot_had_2 at h
 refine wE [(0,.a [vi p_a.Ino,vi p_a.Kind,vi p_a.Links,.s (mD p_a.Data),.s (mC p_a.Ents),vi p_a.Up]),(1,.a [vi p_b.Ino,vi p_b.Kind,vi p_b.Links,.s (mD p_b.Data),.s (mC p_b.Ents),vi p_b.Up])] Q2 ?_
 refine sg ?_
 refine wT [(2,.b 2 0),(3,.b 3 0)] [(2,.box [vi p_a.Ino,vi p_a.Kind,vi p_a.Links,.s (mD p_a.Data),.s (mC p_a.Ents),vi p_a.Up]),(3,.box [vi p_b.Ino,vi p_b.Kind,vi p_b.Links,.s (mD p_b.Data),.s (mC p_b.Ents),vi p_b.Up])] Q2 J2 rfl ?_
 refine sg ?_
 obtain ⟨x1,hx1,h⟩:=bindS h
 refine ⟨_,rfl,_,rfl,?_⟩
 refine CallOk.call (w_cmpN1 hx1) (LeL.refl _) ?_
 refine wE [(4,vi x1)] Q1 ?_
 refine rt ?_
 cases h
 exact Fz.v
set_option maxHeartbeats 4000000 in
theorem w_shot_had {p_s} {p_x} {r} (h:shot_had p_s p_x=some r):Pure Tryz.prog 38 [(.a [(.s (mI p_s.Now.Nodes)),(vi p_s.Now.Next),(vi p_s.Now.Cookie),(vi p_s.Tick),(.s (mB p_s.Since)),(.s (mA p_s.Pasts)),(.s (mU p_s.Taken)),(vi p_s.Next)]),(.a [(vi p_x.Id),(vi p_x.Ino),(vi p_x.At)])] (.t [(.s (mI r.1)),(vb r.2)]):=by
 refine po Tryz.tok 74 Tryz.func38 (by kernel_rfl) rfl rfl rfl ?_
 unfold shot_had at h
 refine wE [(0,.a [.s (mI p_s.Now.Nodes),vi p_s.Now.Next,vi p_s.Now.Cookie,vi p_s.Tick,.s (mB p_s.Since),.s (mA p_s.Pasts),.s (mU p_s.Taken),vi p_s.Next]),(1,.a [vi p_x.Id,vi p_x.Ino,vi p_x.At])] Q2 ?_
 refine sg ?_
 refine wT [(2,.b 2 0),(3,.b 3 0)] [(2,.box [.s (mI p_s.Now.Nodes),vi p_s.Now.Next,vi p_s.Now.Cookie,vi p_s.Tick,.s (mB p_s.Since),.s (mA p_s.Pasts),.s (mU p_s.Taken),vi p_s.Next]),(3,.box [vi p_x.Id,vi p_x.Ino,vi p_x.At])] Q2 J2 rfl ?_
 refine sg ?_
 refine ⟨_,rfl,?_⟩
 refine wT [(2,.b 2 0),(3,.b 3 0),(6,.b 6 0)] [(2,.box [.s (mI p_s.Now.Nodes),vi p_s.Now.Next,vi p_s.Now.Cookie,vi p_s.Tick,.s (mB p_s.Since),.s (mA p_s.Pasts),.s (mU p_s.Taken),vi p_s.Next]),(3,.box [vi p_x.Id,vi p_x.Ino,vi p_x.At]),(6,.box [.m 15]),(15,.mp true (List.map (fun p=>(p.1,c_api_Node p.2)) ([]:List (Int×api_Node))))] Q3 ⟨⟨_,rfl,.refl _⟩,⟨_,rfl,.refl _⟩,⟨_,rfl,.refl _⟩,⟨_,rfl,.refl _⟩,Q0⟩ rfl ?_
 obtain ⟨v1,hv1,h⟩:=bindS h
 refine Ok.seqw ⟨Cat.tab [(2,.b 2 0),(3,.b 3 0),(6,.b 6 0)],[(2,.box [.s (mI p_s.Now.Nodes),vi p_s.Now.Next,vi p_s.Now.Cookie,vi p_s.Tick,.s (mB p_s.Since),.s (mA p_s.Pasts),.s (mU p_s.Taken),vi p_s.Next]),(3,.box [vi p_x.Id,vi p_x.Ino,vi p_x.At]),(6,.box [.m 15]),(15,.mp true (List.map (fun p=>(p.1,c_api_Node p.2)) v1))]⟩ ?_ ?_
 ·refine sg ?_
  refine ⟨_,rfl,_,List.length_map _,fun _=>?_⟩
  refine wT [(2,.b 2 0),(3,.b 3 0),(6,.b 6 0),(17,.s (mA p_s.Pasts)),(18,vi (p_s.Pasts.length:Int)),(19,vi (0))] [(2,.box [.s (mI p_s.Now.Nodes),vi p_s.Now.Next,vi p_s.Now.Cookie,vi p_s.Tick,.s (mB p_s.Since),.s (mA p_s.Pasts),.s (mU p_s.Taken),vi p_s.Next]),(3,.box [vi p_x.Id,vi p_x.Ino,vi p_x.At]),(6,.box [.m 15]),(15,.mp true (List.map (fun p=>(p.1,c_api_Node p.2)) ([]:List (Int×api_Node))))] Q6 ⟨⟨_,rfl,.refl _⟩,⟨_,rfl,.refl _⟩,⟨_,rfl,.refl _⟩,⟨_,rfl,.refl _⟩,Q0⟩ rfl ?_
  refine bl ?_
  refine Ok.loop (fun (s1:Int×(List (Int×api_Node)))=>⟨Cat.tab [(2,.b 2 0),(3,.b 3 0),(6,.b 6 0),(17,.s (mA p_s.Pasts)),(18,vi (p_s.Pasts.length:Int)),(19,vi s1.1)],[(2,.box [.s (mI p_s.Now.Nodes),vi p_s.Now.Next,vi p_s.Now.Cookie,vi p_s.Tick,.s (mB p_s.Since),.s (mA p_s.Pasts),.s (mU p_s.Taken),vi p_s.Next]),(3,.box [vi p_x.Id,vi p_x.Ino,vi p_x.At]),(6,.box [.m 15]),(15,.mp true (List.map (fun p=>(p.1,c_api_Node p.2)) s1.2))]⟩) (shot_had_B1 p_s p_x) (s0:=(0,([]:List (Int×api_Node)))) hv1 (wt Q6 ⟨⟨_,rfl,.refl _⟩,⟨_,rfl,.refl _⟩,⟨_,rfl,.refl _⟩,⟨_,rfl,.refl _⟩,Q0⟩ rfl) ?_
  intro s1 y1 hB1 hy1
  unfold shot_had_B1 at hB1
  refine sg ?_
  refine wT [(2,.b 2 0),(3,.b 3 0),(6,.b 6 0),(17,.s (mA p_s.Pasts)),(18,vi (p_s.Pasts.length:Int)),(19,vi s1.1),(20,vb (decide (s1.1 < (p_s.Pasts.length:Int))))] [(2,.box [.s (mI p_s.Now.Nodes),vi p_s.Now.Next,vi p_s.Now.Cookie,vi p_s.Tick,.s (mB p_s.Since),.s (mA p_s.Pasts),.s (mU p_s.Taken),vi p_s.Next]),(3,.box [vi p_x.Id,vi p_x.Ino,vi p_x.At]),(6,.box [.m 15]),(15,.mp true (List.map (fun p=>(p.1,c_api_Node p.2)) s1.2))] Q7 ⟨⟨_,rfl,.refl _⟩,⟨_,rfl,.refl _⟩,⟨_,rfl,.refl _⟩,⟨_,rfl,.refl _⟩,Q0⟩ rfl ?_
  refine sq ?_
  refine cn 20 (decide (s1.1 < (p_s.Pasts.length:Int))) rfl hB1 (fun hb hB1=>?_) fun hb hB1=>?_
  ·refine sk ?_
   obtain ⟨v2,hv2,hB1⟩:=bindS hB1
   refine Ok.seqw ⟨Cat.tab [(2,.b 2 0),(3,.b 3 0),(6,.b 6 0),(17,.s (mA p_s.Pasts)),(18,vi (p_s.Pasts.length:Int)),(19,vi s1.1)],[(2,.box [.s (mI p_s.Now.Nodes),vi p_s.Now.Next,vi p_s.Now.Cookie,vi p_s.Tick,.s (mB p_s.Since),.s (mA p_s.Pasts),.s (mU p_s.Taken),vi p_s.Next]),(3,.box [vi p_x.Id,vi p_x.Ino,vi p_x.At]),(6,.box [.m 15]),(15,.mp true (List.map (fun p=>(p.1,c_api_Node p.2)) v2))]⟩ ?_ ?_
   ·refine bl ?_
    refine sg ?_
    obtain ⟨x1,hx1,hv2⟩:=bindS hv2
    refine ⟨_,idx_nat hx1,_,idx_row hx1,_,rfl,_,rfl,?_⟩
    refine wT [(2,.b 2 0),(3,.b 3 0),(6,.b 6 0),(8,.b 8 0),(17,.s (mA p_s.Pasts)),(18,vi (p_s.Pasts.length:Int)),(19,vi s1.1)] [(2,.box [.s (mI p_s.Now.Nodes),vi p_s.Now.Next,vi p_s.Now.Cookie,vi p_s.Tick,.s (mB p_s.Since),.s (mA p_s.Pasts),.s (mU p_s.Taken),vi p_s.Next]),(3,.box [vi p_x.Id,vi p_x.Ino,vi p_x.At]),(6,.box [.m 15]),(15,.mp true (List.map (fun p=>(p.1,c_api_Node p.2)) s1.2)),(8,.box [vi x1.From,vi x1.Till,vi x1.Node.Ino,vi x1.Node.Kind,vi x1.Node.Links,.s (mD x1.Node.Data),.s (mC x1.Node.Ents),vi x1.Node.Up])] Q7 ⟨⟨_,rfl,.refl _⟩,⟨_,rfl,.refl _⟩,⟨_,rfl,.refl _⟩,⟨_,rfl,.refl _⟩,⟨_,rfl,.refl _⟩,Q0⟩ rfl ?_
    obtain ⟨v3,hv3,hv2⟩:=bindS hv2
    refine Ok.seqw ⟨Cat.tab [(2,.b 2 0),(3,.b 3 0),(6,.b 6 0),(8,.b 8 0),(17,.s (mA p_s.Pasts)),(18,vi (p_s.Pasts.length:Int)),(19,vi s1.1),(34,vb v3)],[(2,.box [.s (mI p_s.Now.Nodes),vi p_s.Now.Next,vi p_s.Now.Cookie,vi p_s.Tick,.s (mB p_s.Since),.s (mA p_s.Pasts),.s (mU p_s.Taken),vi p_s.Next]),(3,.box [vi p_x.Id,vi p_x.Ino,vi p_x.At]),(6,.box [.m 15]),(15,.mp true (List.map (fun p=>(p.1,c_api_Node p.2)) s1.2)),(8,.box [vi x1.From,vi x1.Till,vi x1.Node.Ino,vi x1.Node.Kind,vi x1.Node.Links,.s (mD x1.Node.Data),.s (mC x1.Node.Ents),vi x1.Node.Up])]⟩ ?_ ?_
    ·refine rg ?_
     refine ⟨_,rfl,_,rfl,?_⟩
     obtain ⟨c1,hg1,hv3⟩:=bindS hv3
     refine Br.ite hg1 (fun hb hg1=>?_) fun hb hg1=>?_
     ·refine ⟨_,rfl,_,rfl,?_⟩
      cases hg1
      cases hv3
      exact wt Q8 ⟨hr,J4⟩ rfl
     cases hg1
     cases hv3
     exact wt Q8 ⟨hr,J4⟩ rfl
    refine cn 34 (v3) rfl hv2 (fun hb hv2=>?_) fun hb hv2=>?_
    ·refine rg ?_
     obtain ⟨hc1,hv2⟩:=chk_some hv2
     refine ⟨_,rfl,_,rfl,_,rfl,hc1.1,Nat.lt_of_le_of_lt (Nat.le_of_eq (List.length_map _)) hc1.2,_,mset_map c_api_Node x1.Node.Ino x1.Node s1.2,?_⟩
     cases hv2
     exact wt Q6 J4 rfl
    refine sk ?_
    cases hv2
    exact wt Q6 J4 rfl
   refine rg ?_
   obtain ⟨hc2,hB1⟩:=chk_some hB1
   refine (Or.inl ⟨hc2,?_⟩)
   exact ⟨_,sj hB1,wt Q6 J4 rfl⟩
  refine xt ?_
  have hB1:=out_ret hB1 hy1
  cases hB1
  exact wt Q3 J4 rfl
 obtain ⟨v4,hv4,h⟩:=bindS h
 refine Ok.seqw ⟨Cat.tab [(3,.b 3 0),(6,.b 6 0)],[(3,.box [vi p_x.Id,vi p_x.Ino,vi p_x.At]),(6,.box [.m 15]),(15,.mp true (List.map (fun p=>(p.1,c_api_Node p.2)) v4))]⟩ ?_ ?_
 ·refine sg ?_
  refine ⟨_,rfl,_,List.length_map _,fun _=>?_⟩
  refine wT [(2,.b 2 0),(3,.b 3 0),(6,.b 6 0),(44,.s (mI p_s.Now.Nodes)),(45,vi (p_s.Now.Nodes.length:Int)),(46,vi (0))] [(2,.box [.s (mI p_s.Now.Nodes),vi p_s.Now.Next,vi p_s.Now.Cookie,vi p_s.Tick,.s (mB p_s.Since),.s (mA p_s.Pasts),.s (mU p_s.Taken),vi p_s.Next]),(3,.box [vi p_x.Id,vi p_x.Ino,vi p_x.At]),(6,.box [.m 15]),(15,.mp true (List.map (fun p=>(p.1,c_api_Node p.2)) v1))] Q6 ⟨⟨_,rfl,.refl _⟩,⟨_,rfl,.refl _⟩,⟨_,rfl,.refl _⟩,⟨_,rfl,.refl _⟩,Q0⟩ rfl ?_
  refine bl ?_
  refine Ok.loop (fun (s2:Int×(List (Int×api_Node)))=>⟨Cat.tab [(2,.b 2 0),(3,.b 3 0),(6,.b 6 0),(44,.s (mI p_s.Now.Nodes)),(45,vi (p_s.Now.Nodes.length:Int)),(46,vi s2.1)],[(2,.box [.s (mI p_s.Now.Nodes),vi p_s.Now.Next,vi p_s.Now.Cookie,vi p_s.Tick,.s (mB p_s.Since),.s (mA p_s.Pasts),.s (mU p_s.Taken),vi p_s.Next]),(3,.box [vi p_x.Id,vi p_x.Ino,vi p_x.At]),(6,.box [.m 15]),(15,.mp true (List.map (fun p=>(p.1,c_api_Node p.2)) s2.2))]⟩) (shot_had_B2 p_s p_x) (s0:=(0,v1)) hv4 (wt Q6 ⟨⟨_,rfl,.refl _⟩,⟨_,rfl,.refl _⟩,⟨_,rfl,.refl _⟩,⟨_,rfl,.refl _⟩,Q0⟩ rfl) ?_
  intro s2 y2 hB2 hy2
  unfold shot_had_B2 at hB2
  refine sg ?_
  refine wT [(2,.b 2 0),(3,.b 3 0),(6,.b 6 0),(44,.s (mI p_s.Now.Nodes)),(45,vi (p_s.Now.Nodes.length:Int)),(46,vi s2.1),(47,vb (decide (s2.1 < (p_s.Now.Nodes.length:Int))))] [(2,.box [.s (mI p_s.Now.Nodes),vi p_s.Now.Next,vi p_s.Now.Cookie,vi p_s.Tick,.s (mB p_s.Since),.s (mA p_s.Pasts),.s (mU p_s.Taken),vi p_s.Next]),(3,.box [vi p_x.Id,vi p_x.Ino,vi p_x.At]),(6,.box [.m 15]),(15,.mp true (List.map (fun p=>(p.1,c_api_Node p.2)) s2.2))] Q7 ⟨⟨_,rfl,.refl _⟩,⟨_,rfl,.refl _⟩,⟨_,rfl,.refl _⟩,⟨_,rfl,.refl _⟩,Q0⟩ rfl ?_
  refine sq ?_
  refine cn 47 (decide (s2.1 < (p_s.Now.Nodes.length:Int))) rfl hB2 (fun hb hB2=>?_) fun hb hB2=>?_
  ·refine sk ?_
   obtain ⟨v5,hv5,hB2⟩:=bindS hB2
   refine Ok.seqw ⟨Cat.tab [(2,.b 2 0),(3,.b 3 0),(6,.b 6 0),(44,.s (mI p_s.Now.Nodes)),(45,vi (p_s.Now.Nodes.length:Int)),(46,vi s2.1)],[(2,.box [.s (mI p_s.Now.Nodes),vi p_s.Now.Next,vi p_s.Now.Cookie,vi p_s.Tick,.s (mB p_s.Since),.s (mA p_s.Pasts),.s (mU p_s.Taken),vi p_s.Next]),(3,.box [vi p_x.Id,vi p_x.Ino,vi p_x.At]),(6,.box [.m 15]),(15,.mp true (List.map (fun p=>(p.1,c_api_Node p.2)) v5))]⟩ ?_ ?_
   ·refine bl ?_
    refine sg ?_
    obtain ⟨x2,hx2,hv5⟩:=bindS hv5
    refine ⟨_,idx_nat hx2,_,idx_row hx2,_,rfl,_,rfl,?_⟩
    refine wT [(2,.b 2 0),(3,.b 3 0),(6,.b 6 0),(9,vi s2.1),(10,.b 10 0),(44,.s (mI p_s.Now.Nodes)),(45,vi (p_s.Now.Nodes.length:Int)),(46,vi s2.1)] [(2,.box [.s (mI p_s.Now.Nodes),vi p_s.Now.Next,vi p_s.Now.Cookie,vi p_s.Tick,.s (mB p_s.Since),.s (mA p_s.Pasts),.s (mU p_s.Taken),vi p_s.Next]),(3,.box [vi p_x.Id,vi p_x.Ino,vi p_x.At]),(6,.box [.m 15]),(15,.mp true (List.map (fun p=>(p.1,c_api_Node p.2)) s2.2)),(10,.box [vi x2.Ino,vi x2.Kind,vi x2.Links,.s (mD x2.Data),.s (mC x2.Ents),vi x2.Up])] Q8 ⟨⟨_,rfl,.refl _⟩,⟨_,rfl,.refl _⟩,⟨_,rfl,.refl _⟩,⟨_,rfl,.refl _⟩,⟨_,rfl,.refl _⟩,Q0⟩ rfl ?_
    refine sq ?_
    refine Ok.draw (m:=8) (MD:=⟨[]⟩) (CH:=⟨[]⟩) Tryz.tok Tryz.mixed (by kernel_rfl) ?_
    obtain ⟨x3,hx3,hv5⟩:=bindS hv5
    refine ⟨_,rfl,_,⟨_,rfl,rfl⟩,_,rfl,_,⟨_,idx_nat hx3,_,idx_row hx3,rfl⟩,_,⟨_,rfl,rfl⟩,_,rfl,_,⟨_,rfl,rfl⟩,_,rfl,Q0,?_⟩
    refine wT [(2,.b 2 0),(3,.b 3 0),(6,.b 6 0),(10,.b 10 0),(44,.s (mI p_s.Now.Nodes)),(45,vi (p_s.Now.Nodes.length:Int)),(46,vi s2.1),(58,vb (decide (x3≤p_x.At)))] [(2,.box [.s (mI p_s.Now.Nodes),vi p_s.Now.Next,vi p_s.Now.Cookie,vi p_s.Tick,.s (mB p_s.Since),.s (mA p_s.Pasts),.s (mU p_s.Taken),vi p_s.Next]),(3,.box [vi p_x.Id,vi p_x.Ino,vi p_x.At]),(6,.box [.m 15]),(15,.mp true (List.map (fun p=>(p.1,c_api_Node p.2)) s2.2)),(10,.box [vi x2.Ino,vi x2.Kind,vi x2.Links,.s (mD x2.Data),.s (mC x2.Ents),vi x2.Up])] Q8 ⟨⟨_,rfl,.refl _⟩,⟨_,rfl,.refl _⟩,⟨_,rfl,.refl _⟩,⟨_,rfl,.refl _⟩,⟨_,rfl,.refl _⟩,Q0⟩ rfl ?_
    refine cn 58 (decide (x3≤p_x.At)) rfl hv5 (fun hb hv5=>?_) fun hb hv5=>?_
    ·refine rg ?_
     obtain ⟨hc3,hv5⟩:=chk_some hv5
     refine ⟨_,rfl,_,rfl,_,rfl,hc3.1,Nat.lt_of_le_of_lt (Nat.le_of_eq (List.length_map _)) hc3.2,_,mset_map c_api_Node x2.Ino x2 s2.2,?_⟩
     cases hv5
     exact wt Q6 J4 rfl
    refine sk ?_
    cases hv5
    exact wt Q6 J4 rfl
   refine rg ?_
   obtain ⟨hc4,hB2⟩:=chk_some hB2
   refine (Or.inl ⟨hc4,?_⟩)
   exact ⟨_,sj hB2,wt Q6 J4 rfl⟩
  refine xt ?_
  have hB2:=out_ret hB2 hy2
  cases hB2
  exact wt Q2 J3 rfl
 refine sg ?_
 refine ⟨_,rfl,?_⟩
 refine wT [(3,.b 3 0),(6,.b 6 0),(11,.b 11 0)] [(3,.box [vi p_x.Id,vi p_x.Ino,vi p_x.At]),(6,.box [.m 15]),(15,.mp true (List.map (fun p=>(p.1,c_api_Node p.2)) v4)),(11,.box [.m 64]),(64,.mp true (List.map (fun p=>(p.1,c_struct_struct p.2)) ([]:List (Int×struct_struct))))] Q3 ⟨⟨_,rfl,.refl _⟩,⟨_,rfl,.refl _⟩,⟨_,rfl,.refl _⟩,⟨_,rfl,.refl _⟩,⟨_,rfl,.refl _⟩,Q0⟩ rfl ?_
 refine sg ?_
 refine wT [(3,.b 3 0),(6,.b 6 0),(11,.b 11 0),(12,.b 12 0)] [(3,.box [vi p_x.Id,vi p_x.Ino,vi p_x.At]),(6,.box [.m 15]),(15,.mp true (List.map (fun p=>(p.1,c_api_Node p.2)) v4)),(11,.box [.m 64]),(64,.mp true (List.map (fun p=>(p.1,c_struct_struct p.2)) ([]:List (Int×struct_struct)))),(12,.box [.v (.slice none 0 0)])] Q4 ⟨⟨_,rfl,.refl _⟩,⟨_,rfl,.refl _⟩,⟨_,rfl,.refl _⟩,⟨_,rfl,.refl _⟩,⟨_,rfl,.refl _⟩,⟨_,rfl,.refl _⟩,Q0⟩ rfl ?_
 refine sg ?_
 refine wT [(3,.b 3 0),(6,.b 6 0),(11,.b 11 0),(12,.b 12 0),(13,.b 13 0)] [(3,.box [vi p_x.Id,vi p_x.Ino,vi p_x.At]),(6,.box [.m 15]),(15,.mp true (List.map (fun p=>(p.1,c_api_Node p.2)) v4)),(11,.box [.m 64]),(64,.mp true (List.map (fun p=>(p.1,c_struct_struct p.2)) ([]:List (Int×struct_struct)))),(12,.box [.v (.slice none 0 0)]),(13,.box [.junk])] Q5 ⟨⟨_,rfl,.refl _⟩,⟨_,rfl,.refl _⟩,⟨_,rfl,.refl _⟩,⟨_,rfl,.refl _⟩,⟨_,rfl,.refl _⟩,⟨_,rfl,.refl _⟩,⟨_,rfl,.box (.cons Le.junk (.nil))⟩,Q0⟩ rfl ?_
 refine sg ?_
 refine ⟨_,rfl,?_⟩
 refine wT [(3,.b 3 0),(12,.b 12 0),(13,.b 13 0)] [(3,.box [vi p_x.Id,vi p_x.Ino,vi p_x.At]),(12,.box [.v (.slice none 0 0)]),(13,.box [.c (.func 75) [] [.b 11 0,.b 6 0,.b 12 0,.b 13 0]]),(11,.box [.m 64]),(64,.mp true (List.map (fun p=>(p.1,c_struct_struct p.2)) ([]:List (Int×struct_struct)))),(6,.box [.m 15]),(15,.mp true (List.map (fun p=>(p.1,c_api_Node p.2)) v4))] Q3 ⟨⟨_,rfl,.refl _⟩,⟨_,rfl,.refl _⟩,⟨_,rfl,.refl _⟩,⟨_,rfl,.refl _⟩,⟨_,rfl,.refl _⟩,⟨_,rfl,.refl _⟩,⟨_,rfl,.refl _⟩,Q0⟩ rfl ?_
 refine sg ?_
 obtain ⟨x4,hx4,h⟩:=bindS h
 refine ⟨_,rfl,_,rfl,?_⟩
 refine CallOk.gen (m:=[(1000,11),(1001,64),(1002,6),(1003,15),(1004,12),(1005,13)]) (n:=[(35,999)]) (wg_shotN1 hx4) (.cons (Ln.imm rfl) (.cons (Ln.b rfl) (.cons (Ln.b rfl) (.cons (Ln.b rfl) (.cons (Ln.b rfl) (.nil)))))) ⟨⟨11,_,rfl,rfl,.box (.cons (Ln.mm rfl) (.nil))⟩,⟨64,_,rfl,rfl,.refl rfl⟩,⟨6,_,rfl,rfl,.box (.cons (Ln.mm rfl) (.nil))⟩,⟨15,_,rfl,rfl,.refl rfl⟩,⟨12,_,rfl,rfl,.box (.cons (Ln.imm rfl) (.nil))⟩,⟨13,_,rfl,rfl,.box (.cons (Ln.c (.nil) (.cons (Ln.b rfl) (.cons (Ln.b rfl) (.cons (Ln.b rfl) (.cons (Ln.b rfl) (.nil)))))) (.nil))⟩,Q0⟩ rfl rfl rfl ?_
 refine wT [(12,.b 12 0),(14,vb x4.1)] [(12,.box [.o 999]),(999,.own 55 6 (mI x4.2.2.2))] Q2 J2 rfl ?_
 refine sg ?_
 obtain ⟨x5,hx5,h⟩:=bindS h
 refine ⟨_,rfl,?_⟩
 refine CallOk.chgLe (id:=999) (pchg_sortG (E:=55) (enc:=c_api_Node) Tryz.says76 Tryz.enters76 (fun _=>rfl) (fun _ _ _ h=>w_shotN6 (M:=Mono.yes) h) (enters_of Tryz.func77 (by kernel_rfl) rfl) hx5) rfl (.refl _) rfl (.cons Lr.o (.cons (Lr.imm rfl) .nil)) ?_
 rintro _ _ ⟨rfl,rfl⟩
 refine wT [(12,.b 12 0),(14,vb x4.1)] [(12,.box [.o 999]),(999,.own 55 6 (mI x5))] Q2 J2 rfl ?_
 refine sg ?_
 refine ⟨_,rfl,?_⟩
 refine wT [(4,.o 999),(5,vb x4.1)] [(999,.own 55 6 (mI x5))] Q2 J1 rfl ?_
 refine rt ?_
 cases h
 exact (Fz.t (.cons (Fz.o rfl) (.cons Fz.v .nil)))
theorem w_shot_At {p_s} {p_id} {r} (h:shot_At p_s p_id=some r):Pure Tryz.prog 16 [(.a [(.s (mI p_s.Now.Nodes)),(vi p_s.Now.Next),(vi p_s.Now.Cookie),(vi p_s.Tick),(.s (mB p_s.Since)),(.s (mA p_s.Pasts)),(.s (mU p_s.Taken)),(vi p_s.Next)]),(vi p_id)] (.t [(vi r.1),(.s (mI r.2.1)),(vi r.2.2)]):=by
 refine po Tryz.tok 32 Tryz.func16 (by kernel_rfl) rfl rfl rfl ?_
 unfold shot_At at h
 refine wE [(0,.a [.s (mI p_s.Now.Nodes),vi p_s.Now.Next,vi p_s.Now.Cookie,vi p_s.Tick,.s (mB p_s.Since),.s (mA p_s.Pasts),.s (mU p_s.Taken),vi p_s.Next]),(1,vi p_id)] Q2 ?_
 refine sg ?_
 refine wT [(1,vi p_id),(2,.b 2 0)] [(2,.box [.s (mI p_s.Now.Nodes),vi p_s.Now.Next,vi p_s.Now.Cookie,vi p_s.Tick,.s (mB p_s.Since),.s (mA p_s.Pasts),.s (mU p_s.Taken),vi p_s.Next])] Q2 J1 rfl ?_
 refine Ok.seqj (fun v1=>⟨Cat.tab [],[]⟩) (fun v1=>shot_At_J1 v1=some r) ?_ ?_
 ·refine sg ?_
  refine ⟨_,rfl,_,List.length_map _,fun _=>?_⟩
  refine wT [(1,vi p_id),(2,.b 2 0),(12,.s (mU p_s.Taken)),(13,vi (p_s.Taken.length:Int)),(14,vi (0))] [(2,.box [.s (mI p_s.Now.Nodes),vi p_s.Now.Next,vi p_s.Now.Cookie,vi p_s.Tick,.s (mB p_s.Since),.s (mA p_s.Pasts),.s (mU p_s.Taken),vi p_s.Next])] Q5 J1 rfl ?_
  refine bl ?_
  refine Ok.loop (fun (s1:Int)=>⟨Cat.tab [(1,vi p_id),(2,.b 2 0),(12,.s (mU p_s.Taken)),(13,vi (p_s.Taken.length:Int)),(14,vi s1)],[(2,.box [.s (mI p_s.Now.Nodes),vi p_s.Now.Next,vi p_s.Now.Cookie,vi p_s.Tick,.s (mB p_s.Since),.s (mA p_s.Pasts),.s (mU p_s.Taken),vi p_s.Next])]⟩) (shot_At_B1 p_s p_id) (s0:=0) h (wt Q5 ⟨⟨_,rfl,.refl _⟩,Q0⟩ rfl) ?_
  intro s1 y1 hB1 hy1
  unfold shot_At_B1 at hB1
  refine sg ?_
  refine wT [(1,vi p_id),(2,.b 2 0),(12,.s (mU p_s.Taken)),(13,vi (p_s.Taken.length:Int)),(14,vi s1),(15,vb (decide (s1 < (p_s.Taken.length:Int))))] [(2,.box [.s (mI p_s.Now.Nodes),vi p_s.Now.Next,vi p_s.Now.Cookie,vi p_s.Tick,.s (mB p_s.Since),.s (mA p_s.Pasts),.s (mU p_s.Taken),vi p_s.Next])] Q6 J1 rfl ?_
  refine sq ?_
  refine cn 15 (decide (s1 < (p_s.Taken.length:Int))) rfl hB1 (fun hb hB1=>?_) fun hb hB1=>?_
  ·refine sk ?_
   refine sq ?_
   refine bl ?_
   refine sg ?_
   obtain ⟨x1,hx1,hB1⟩:=bindS hB1
   refine ⟨_,idx_nat hx1,_,idx_row hx1,_,rfl,_,rfl,?_⟩
   refine wT [(1,vi p_id),(2,.b 2 0),(8,.b 8 0),(12,.s (mU p_s.Taken)),(13,vi (p_s.Taken.length:Int)),(14,vi s1)] [(2,.box [.s (mI p_s.Now.Nodes),vi p_s.Now.Next,vi p_s.Now.Cookie,vi p_s.Tick,.s (mB p_s.Since),.s (mA p_s.Pasts),.s (mU p_s.Taken),vi p_s.Next]),(8,.box [vi x1.Id,vi x1.Ino,vi x1.At])] Q6 J2 rfl ?_
   refine sg ?_
   refine ⟨_,rfl,?_⟩
   refine wT [(1,vi p_id),(2,.b 2 0),(8,.b 8 0),(12,.s (mU p_s.Taken)),(13,vi (p_s.Taken.length:Int)),(14,vi s1),(21,vb (x1.Id == p_id))] [(2,.box [.s (mI p_s.Now.Nodes),vi p_s.Now.Next,vi p_s.Now.Cookie,vi p_s.Tick,.s (mB p_s.Since),.s (mA p_s.Pasts),.s (mU p_s.Taken),vi p_s.Next]),(8,.box [vi x1.Id,vi x1.Ino,vi x1.At])] Q7 J2 rfl ?_
   refine cn 21 (x1.Id == p_id) rfl hB1 (fun hb hB1=>?_) fun hb hB1=>?_
   ·refine sg ?_
    obtain ⟨x2,hx2,hB1⟩:=bindS hB1
    refine ⟨_,rfl,_,rfl,?_⟩
    refine CallOk.call (w_shot_had hx2) (LeL.refl _) ?_
    refine wT [(8,.b 8 0),(9,.s (mI x2.1))] [(8,.box [vi x1.Id,vi x1.Ino,vi x1.At])] Q2 J1 rfl ?_
    refine sg ?_
    refine ⟨_,rfl,?_⟩
    refine wE [(4,vi x1.Ino),(5,.s (mI x2.1)),(6,vi (0))] Q3 ?_
    refine rt ?_
    have hB1:=out_ret hB1 hy1
    cases hB1
    exact (Fz.t (.cons Fz.v (.cons Fz.s (.cons Fz.v .nil))))
   refine sk ?_
   refine rg ?_
   obtain ⟨hc1,hB1⟩:=chk_some hB1
   refine (Or.inl ⟨hc1,?_⟩)
   exact ⟨_,sj hB1,wt Q5 J1 rfl⟩
  refine xt ?_
  have hB1:=out_ret hB1 hy1
  exact ⟨_,hB1,wt Q0 Q0 rfl⟩
 intro v1 h
 unfold shot_At_J1 at h
 refine sg ?_
 refine wE [(4,vi (0)),(5,.v (.slice none 0 0)),(6,vi (100))] Q3 ?_
 refine rt ?_
 cases h
 exact (Fz.t (.cons Fz.v (.cons Fz.nil (.cons Fz.v .nil))))
theorem w_shotN1 {p_x} {p_a1_0} {r} (h:shot_Drop_1 p_x p_a1_0=some r):Pure Tryz.prog 48 [(.a [(vi p_x.Id),(vi p_x.Ino),(vi p_x.At)]),(.p [(vi p_a1_0)])] (vb r):=by
 refine po Tryz.tok 8 Tryz.func48 (by kernel_rfl) rfl rfl rfl ?_
 unfold shot_Drop_1 at h
 refine wE [(0,.a [vi p_x.Id,vi p_x.Ino,vi p_x.At]),(1,.p [vi p_a1_0])] Q2 ?_
 refine sg ?_
 refine wT [(1,.p [vi p_a1_0]),(2,.b 2 0)] [(2,.box [vi p_x.Id,vi p_x.Ino,vi p_x.At])] Q2 J1 rfl ?_
 refine sg ?_
 refine ⟨_,rfl,_,rfl,?_⟩
 refine wE [(3,vb (p_x.Id != p_a1_0))] Q1 ?_
 refine rt ?_
 cases h
 exact Fz.v
theorem wo_shotN1 {p_l} {p_want_c0} {r} (h:shotN41 p_l p_want_c0=some r):POwn Tryz.prog 47 [(.s (mU p_l)),(.c (.func 48) [] [(.p [(vi p_want_c0)])])] 47 3 (mU r):=by
 refine pw Tryz.tok 23 Tryz.func47 (by kernel_rfl) rfl rfl rfl ?_
 unfold shotN41 at h
 refine wE [(0,.s (mU p_l)),(1,.c (.func 48) [] [.p [vi p_want_c0]])] Q2 ?_
 refine sg ?_
 refine wE [(0,.s (mU p_l)),(1,.c (.func 48) [] [.p [vi p_want_c0]])] Q2 ?_
 refine sg ?_
 refine wE [(0,.s (mU p_l)),(1,.c (.func 48) [] [.p [vi p_want_c0]]),(5,.v (.slice none 0 0))] Q3 ?_
 obtain ⟨v1,hv1,h⟩:=bindS h
 refine Ok.seqw ⟨Cat.tab [(5,.o 20)],[(20,.own 47 3 (mU v1))]⟩ ?_ ?_
 ·refine sg ?_
  refine ⟨_,List.length_map _,fun _=>?_⟩
  refine wE [(1,.c (.func 48) [] [.p [vi p_want_c0]]),(5,.v (.slice none 0 0)),(8,.s (mU p_l)),(9,vi (p_l.length:Int)),(10,vi (0))] Q5 ?_
  refine bl ?_
  refine Ok.loop (fun (s1:Int×(List api_Shot))=>⟨Cat.tab [(1,.c (.func 48) [] [.p [vi p_want_c0]]),(5,.o 20),(8,.s (mU p_l)),(9,vi (p_l.length:Int)),(10,vi s1.1)],[(20,.own 47 3 (mU s1.2))]⟩) (shotN43 p_l p_want_c0) (s0:=(0,[])) hv1 ((Wk.own0 (t:=5) (id:=20) (E:=47) (K:=3) rfl rfl).trans (wt Q5 ⟨⟨_,rfl,.refl _⟩,Q0⟩ rfl)) ?_
  intro s1 y1 hB1 hy1
  unfold shotN43 at hB1
  refine sg ?_
  refine wT [(1,.c (.func 48) [] [.p [vi p_want_c0]]),(5,.o 20),(8,.s (mU p_l)),(9,vi (p_l.length:Int)),(10,vi s1.1),(11,vb (decide (s1.1 < (p_l.length:Int))))] [(20,.own 47 3 (mU s1.2))] Q6 J1 rfl ?_
  refine sq ?_
  refine cn 11 (decide (s1.1 < (p_l.length:Int))) rfl hB1 (fun hb hB1=>?_) fun hb hB1=>?_
  ·refine sk ?_
   obtain ⟨v2,hv2,hB1⟩:=bindS hB1
   refine Ok.seqw ⟨Cat.tab [(1,.c (.func 48) [] [.p [vi p_want_c0]]),(5,.o 20),(8,.s (mU p_l)),(9,vi (p_l.length:Int)),(10,vi s1.1)],[(20,.own 47 3 (mU v2))]⟩ ?_ ?_
   ·refine bl ?_
    refine sg ?_
    obtain ⟨x1,hx1,hv2⟩:=bindS hv2
    refine ⟨_,idx_nat hx1,_,idx_row hx1,_,rfl,_,rfl,?_⟩
    refine wT [(1,.c (.func 48) [] [.p [vi p_want_c0]]),(5,.o 20),(7,.b 7 0),(8,.s (mU p_l)),(9,vi (p_l.length:Int)),(10,vi s1.1)] [(20,.own 47 3 (mU s1.2)),(7,.box [vi x1.Id,vi x1.Ino,vi x1.At])] Q6 J2 rfl ?_
    refine sg ?_
    obtain ⟨x2,hx2,hv2⟩:=bindS hv2
    refine ⟨_,rfl,?_⟩
    refine CallOk.call (w_shotN1 hx2) (LeL.refl _) ?_
    refine wT [(1,.c (.func 48) [] [.p [vi p_want_c0]]),(5,.o 20),(7,.b 7 0),(8,.s (mU p_l)),(9,vi (p_l.length:Int)),(10,vi s1.1),(16,vb x2)] [(20,.own 47 3 (mU s1.2)),(7,.box [vi x1.Id,vi x1.Ino,vi x1.At])] Q7 J2 rfl ?_
    refine cn 16 (x2) rfl hv2 (fun hb hv2=>?_) fun hb hv2=>?_
    ·refine rg ?_
     obtain ⟨hc1,hv2⟩:=chk_some hv2
     refine ⟨_,rfl,Or.inl ⟨rowsLen_map (f:=c_api_Shot) (n:=3) (fun _=>rfl) ([x1]),app_b2 (f:=c_api_Shot) (l:=s1.2) (l':=[x1]) hc1,_,(List.map_append (f:=c_api_Shot) (l₁:=s1.2) (l₂:=[x1])).symm,?_⟩⟩
     cases hv2
     exact wt Q5 J1 rfl
    refine sk ?_
    cases hv2
    exact wt Q5 J1 rfl
   refine rg ?_
   obtain ⟨hc2,hB1⟩:=chk_some hB1
   refine (Or.inl ⟨hc2,?_⟩)
   exact ⟨_,sj hB1,wt Q5 J1 rfl⟩
  refine xt ?_
  have hB1:=out_ret hB1 hy1
  cases hB1
  exact wt Q1 J1 rfl
 refine sg ?_
 refine wT [(4,.o 20)] [(20,.own 47 3 (mU v1))] Q1 J1 rfl ?_
 refine rt ?_
 cases h
 exact (.inr ⟨_,rfl,rfl⟩)
theorem w_shotN2 {p_p} {p_a1} {r} (h:shotN1 p_p p_a1=some r):Pure Tryz.prog 50 [(.a [(vi p_p.From),(vi p_p.Till),(vi p_p.Node.Ino),(vi p_p.Node.Kind),(vi p_p.Node.Links),(.s (mD p_p.Node.Data)),(.s (mC p_p.Node.Ents)),(vi p_p.Node.Up)]),(.p [(.s (mU p_a1))])] (vb r):=by
 refine po Tryz.tok 10 Tryz.func50 (by kernel_rfl) rfl rfl rfl ?_
 unfold shotN1 at h
 refine wE [(0,.a [vi p_p.From,vi p_p.Till,vi p_p.Node.Ino,vi p_p.Node.Kind,vi p_p.Node.Links,.s (mD p_p.Node.Data),.s (mC p_p.Node.Ents),vi p_p.Node.Up]),(1,.p [.s (mU p_a1)])] Q2 ?_
 refine sg ?_
 refine wT [(1,.p [.s (mU p_a1)]),(2,.b 2 0)] [(2,.box [vi p_p.From,vi p_p.Till,vi p_p.Node.Ino,vi p_p.Node.Kind,vi p_p.Node.Links,.s (mD p_p.Node.Data),.s (mC p_p.Node.Ents),vi p_p.Node.Up])] Q2 J1 rfl ?_
 refine sg ?_
 obtain ⟨x1,hx1,h⟩:=bindS h
 refine ⟨_,rfl,_,rfl,_,rfl,?_⟩
 refine CallOk.call (w_shot_seen hx1) (LeL.refl _) ?_
 refine wE [(3,vb x1)] Q1 ?_
 refine rt ?_
 cases h
 exact Fz.v
end Go.Proofs
