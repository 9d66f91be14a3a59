/- The walks of this seat beside the plain programs, part 3. No condition. -/
import Derived.Test.YthkdflbnmbnbaaaGreatXShotRightEn
import Derived.Test.YthkdflbnmbnbaaaGreatXShotRightWk0
import Derived.Test.YthkdflbnmbnbaaaGreatXShotRightWk1
import Derived.Test.YthkdflbnmbnbaaaGreatXShotRightWk2
namespace Go.Proofs
set_option linter.all false
open Go Go.Cat
variable [M:Mono]
set_option maxRecDepth 100000
theorem w_shotN3 {p_s} {r} (h:shot_Right p_s=some r):Pure Tryz.prog 14 [(.a [(.s (mI p_s.Now.Nodes)),(vi p_s.Now.Next),(vi p_s.Now.Cookie),(vi p_s.Tick),(.s (mB p_s.Since)),(.s (mA p_s.Pasts)),(.s (mU p_s.Taken)),(vi p_s.Next)])] (vb r):=by
 refine po Tryz.tok 88 Tryz.func14 (by kernel_rfl) rfl rfl rfl ?_
 unfold shot_Right at h
 refine wE [(0,.a [.s (mI p_s.Now.Nodes),vi p_s.Now.Next,vi p_s.Now.Cookie,vi p_s.Tick,.s (mB p_s.Since),.s (mA p_s.Pasts),.s (mU p_s.Taken),vi p_s.Next])] Q1 ?_
 refine sg ?_
 refine wT [(1,.b 1 0)] [(1,.box [.s (mI p_s.Now.Nodes),vi p_s.Now.Next,vi p_s.Now.Cookie,vi p_s.Tick,.s (mB p_s.Since),.s (mA p_s.Pasts),.s (mU p_s.Taken),vi p_s.Next])] Q1 J1 rfl ?_
 refine sq ?_
 obtain ⟨v1,hv1,h⟩:=bindS h
 refine Ok.seqw ⟨Cat.tab [(1,.b 1 0),(41,vb v1)],[(1,.box [.s (mI p_s.Now.Nodes),vi p_s.Now.Next,vi p_s.Now.Cookie,vi p_s.Tick,.s (mB p_s.Since),.s (mA p_s.Pasts),.s (mU p_s.Taken),vi p_s.Next])]⟩ ?_ ?_
 ·refine rg ?_
  obtain ⟨x1,hx1,hv1⟩:=bindS hv1
  refine ⟨_,rfl,?_⟩
  refine CallOk.call (w_treeN1 hx1) (LeL.refl _) ?_
  obtain ⟨c1,hg1,hv1⟩:=bindS hv1
  refine Br.itf hg1 (fun hb hg1=>?_) fun hb hg1=>?_
  ·cases hg1
   obtain ⟨c2,hg2,hv1⟩:=bindS hv1
   replace hg2:=iteT hg2
   cases hg2
   obtain ⟨c3,hg3,hv1⟩:=bindS hv1
   replace hg3:=iteT hg3
   cases hg3
   obtain ⟨c4,hg4,hv1⟩:=bindS hv1
   replace hg4:=iteT hg4
   cases hg4
   obtain ⟨c5,hg5,hv1⟩:=bindS hv1
   replace hg5:=iteT hg5
   cases hg5
   cases hv1
   exact wt Q2 J1 rfl
  refine ⟨_,rfl,?_⟩
  cases hg1
  obtain ⟨c2,hg6,hv1⟩:=bindS hv1
  refine Br.itf hg6 (fun hb hg6=>?_) fun hb hg6=>?_
  ·cases hg6
   obtain ⟨c3,hg7,hv1⟩:=bindS hv1
   replace hg7:=iteT hg7
   cases hg7
   obtain ⟨c4,hg8,hv1⟩:=bindS hv1
   replace hg8:=iteT hg8
   cases hg8
   obtain ⟨c5,hg9,hv1⟩:=bindS hv1
   replace hg9:=iteT hg9
   cases hg9
   cases hv1
   exact wt Q2 J1 rfl
  refine ⟨_,rfl,?_⟩
  cases hg6
  obtain ⟨c3,hg10,hv1⟩:=bindS hv1
  refine Br.itf hg10 (fun hb hg10=>?_) fun hb hg10=>?_
  ·cases hg10
   obtain ⟨c4,hg11,hv1⟩:=bindS hv1
   replace hg11:=iteT hg11
   cases hg11
   obtain ⟨c5,hg12,hv1⟩:=bindS hv1
   replace hg12:=iteT hg12
   cases hg12
   cases hv1
   exact wt Q2 J1 rfl
  refine ⟨_,rfl,_,List.length_map _,fun _=>⟨_,rfl,_,List.length_map _,fun _=>?_⟩⟩
  cases hg10
  obtain ⟨c4,hg13,hv1⟩:=bindS hv1
  refine Br.itf hg13 (fun hb hg13=>?_) fun hb hg13=>?_
  ·cases hg13
   obtain ⟨c5,hg14,hv1⟩:=bindS hv1
   replace hg14:=iteT hg14
   cases hg14
   cases hv1
   exact wt Q2 J1 rfl
  refine ⟨_,rfl,?_⟩
  cases hg13
  obtain ⟨c5,hg15,hv1⟩:=bindS hv1
  refine Br.itf hg15 (fun hb hg15=>?_) fun hb hg15=>?_
  ·cases hg15
   cases hv1
   exact wt Q2 J1 rfl
  refine ⟨_,rfl,?_⟩
  cases hg15
  cases hv1
  exact wt Q2 J1 rfl
 refine cn 41 (v1) rfl h (fun hb h=>?_) fun hb h=>?_
 ·refine sg ?_
  refine wE [(2,vb false)] Q1 ?_
  refine rt ?_
  cases h
  exact Fz.v
 refine sk ?_
 refine sq ?_
 obtain ⟨v2,hv2,h⟩:=bindS h
 refine Ok.seqw ⟨Cat.tab [(1,.b 1 0),(55,vb v2)],[(1,.box [.s (mI p_s.Now.Nodes),vi p_s.Now.Next,vi p_s.Now.Cookie,vi p_s.Tick,.s (mB p_s.Since),.s (mA p_s.Pasts),.s (mU p_s.Taken),vi p_s.Next])]⟩ ?_ ?_
 ·refine rg ?_
  obtain ⟨x2,hx2,hv2⟩:=bindS hv2
  refine ⟨_,rfl,?_⟩
  refine CallOk.borrow (w_slicesN5 hx2) (.cons Fz.s (.cons (Fz.c .nil (.cons (Fz.b rfl rfl) .nil)) (.nil))) rfl ?_
  obtain ⟨c6,hg16,hv2⟩:=bindS hv2
  refine Br.itf hg16 (fun hb hg16=>?_) fun hb hg16=>?_
  ·cases hg16
   obtain ⟨c7,hg17,hv2⟩:=bindS hv2
   replace hg17:=iteT hg17
   cases hg17
   cases hv2
   exact wt Q2 J1 rfl
  obtain ⟨x3,hx3,hg16⟩:=bindS hg16
  refine ⟨_,rfl,?_⟩
  refine CallOk.call (w_shotN10 hx3) (LeL.refl _) ?_
  cases hg16
  obtain ⟨c7,hg18,hv2⟩:=bindS hv2
  refine Br.itf hg18 (fun hb hg18=>?_) fun hb hg18=>?_
  ·cases hg18
   cases hv2
   exact wt Q2 J1 rfl
  obtain ⟨x4,hx4,hg18⟩:=bindS hg18
  refine ⟨_,rfl,?_⟩
  refine CallOk.call (w_shotN7 hx4) (LeL.refl _) ?_
  cases hg18
  cases hv2
  exact wt Q2 J1 rfl
 refine cn 55 (v2) rfl h (fun hb h=>?_) fun hb h=>?_
 ·refine sg ?_
  refine wE [(2,vb false)] Q1 ?_
  refine rt ?_
  cases h
  exact Fz.v
 refine sk ?_
 refine Ok.seqj (fun v3=>⟨Cat.tab [],[]⟩) (fun v3=>shotN10 v3=some r) ?_ ?_
 ·refine sg ?_
  refine ⟨_,rfl,_,List.length_map _,fun _=>?_⟩
  refine wT [(1,.b 1 0),(57,.s (mU p_s.Taken)),(58,vi (p_s.Taken.length:Int)),(59,vi (0))] [(1,.box [.s (mI p_s.Now.Nodes),vi p_s.Now.Next,vi p_s.Now.Cookie,vi p_s.Tick,.s (mB p_s.Since),.s (mA p_s.Pasts),.s (mU p_s.Taken),vi p_s.Next])] Q4 J1 rfl ?_
  refine bl ?_
  refine Ok.loop (fun (s1:Int)=>⟨Cat.tab [(1,.b 1 0),(57,.s (mU p_s.Taken)),(58,vi (p_s.Taken.length:Int)),(59,vi s1)],[(1,.box [.s (mI p_s.Now.Nodes),vi p_s.Now.Next,vi p_s.Now.Cookie,vi p_s.Tick,.s (mB p_s.Since),.s (mA p_s.Pasts),.s (mU p_s.Taken),vi p_s.Next])]⟩) (shotN8 p_s) (s0:=0) h (wt Q4 ⟨⟨_,rfl,.refl _⟩,Q0⟩ rfl) ?_
  intro s1 y1 hB1 hy1
  unfold shotN8 at hB1
  refine sg ?_
  refine wT [(1,.b 1 0),(57,.s (mU p_s.Taken)),(58,vi (p_s.Taken.length:Int)),(59,vi s1),(60,vb (decide (s1 < (p_s.Taken.length:Int))))] [(1,.box [.s (mI p_s.Now.Nodes),vi p_s.Now.Next,vi p_s.Now.Cookie,vi p_s.Tick,.s (mB p_s.Since),.s (mA p_s.Pasts),.s (mU p_s.Taken),vi p_s.Next])] Q5 J1 rfl ?_
  refine sq ?_
  refine cn 60 (decide (s1 < (p_s.Taken.length:Int))) rfl hB1 (fun hb hB1=>?_) fun hb hB1=>?_
  ·refine sk ?_
   refine sq ?_
   refine bl ?_
   refine sg ?_
   obtain ⟨x5,hx5,hB1⟩:=bindS hB1
   refine ⟨_,idx_nat hx5,_,idx_row hx5,_,rfl,_,rfl,?_⟩
   refine wT [(1,.b 1 0),(4,.b 4 0),(57,.s (mU p_s.Taken)),(58,vi (p_s.Taken.length:Int)),(59,vi s1)] [(1,.box [.s (mI p_s.Now.Nodes),vi p_s.Now.Next,vi p_s.Now.Cookie,vi p_s.Tick,.s (mB p_s.Since),.s (mA p_s.Pasts),.s (mU p_s.Taken),vi p_s.Next]),(4,.box [vi x5.Id,vi x5.Ino,vi x5.At])] Q5 J2 rfl ?_
   refine sg ?_
   obtain ⟨x6,hx6,hB1⟩:=bindS hB1
   refine ⟨_,rfl,_,rfl,?_⟩
   refine CallOk.call (w_shot_had hx6) (LeL.refl _) ?_
   refine wT [(1,.b 1 0),(4,.b 4 0),(5,.s (mI x6.1)),(6,vb x6.2),(57,.s (mU p_s.Taken)),(58,vi (p_s.Taken.length:Int)),(59,vi s1)] [(1,.box [.s (mI p_s.Now.Nodes),vi p_s.Now.Next,vi p_s.Now.Cookie,vi p_s.Tick,.s (mB p_s.Since),.s (mA p_s.Pasts),.s (mU p_s.Taken),vi p_s.Next]),(4,.box [vi x5.Id,vi x5.Ino,vi x5.At])] Q7 J2 rfl ?_
   refine sg ?_
   obtain ⟨x7,hx7,hB1⟩:=bindS hB1
   refine ⟨_,rfl,?_⟩
   refine CallOk.call (w_shot_find hx7) (LeL.refl _) ?_
   refine wT [(1,.b 1 0),(5,.s (mI x6.1)),(6,vb x6.2),(7,vi x7),(57,.s (mU p_s.Taken)),(58,vi (p_s.Taken.length:Int)),(59,vi s1)] [(1,.box [.s (mI p_s.Now.Nodes),vi p_s.Now.Next,vi p_s.Now.Cookie,vi p_s.Tick,.s (mB p_s.Since),.s (mA p_s.Pasts),.s (mU p_s.Taken),vi p_s.Next])] Q7 J1 rfl ?_
   obtain ⟨v4,hv4,hB1⟩:=bindS hB1
   refine Ok.seqw ⟨Cat.tab [(1,.b 1 0),(57,.s (mU p_s.Taken)),(58,vi (p_s.Taken.length:Int)),(59,vi s1),(86,vb v4)],[(1,.box [.s (mI p_s.Now.Nodes),vi p_s.Now.Next,vi p_s.Now.Cookie,vi p_s.Tick,.s (mB p_s.Since),.s (mA p_s.Pasts),.s (mU p_s.Taken),vi p_s.Next])]⟩ ?_ ?_
   ·refine rg ?_
    obtain ⟨c8,hg19,hv4⟩:=bindS hv4
    refine Br.itf hg19 (fun hb hg19=>?_) fun hb hg19=>?_
    ·cases hg19
     obtain ⟨c9,hg20,hv4⟩:=bindS hv4
     replace hg20:=iteT hg20
     cases hg20
     cases hv4
     exact wt Q5 J1 rfl
    cases hg19
    obtain ⟨c9,hg21,hv4⟩:=bindS hv4
    refine Br.itf hg21 (fun hb hg21=>?_) fun hb hg21=>?_
    ·cases hg21
     cases hv4
     exact wt Q5 J1 rfl
    obtain ⟨x8,hx8,hg21⟩:=bindS hg21
    refine ⟨_,idx_nat hx8,_,idx_row hx8,_,rfl,?_⟩
    cases hg21
    cases hv4
    exact wt Q5 J1 rfl
   refine cn 86 (v4) rfl hB1 (fun hb hB1=>?_) fun hb hB1=>?_
   ·refine sg ?_
    refine wE [(2,vb false)] Q1 ?_
    refine rt ?_
    have hB1:=out_ret hB1 hy1
    cases hB1
    exact Fz.v
   refine sk ?_
   refine rg ?_
   obtain ⟨hc1,hB1⟩:=chk_some hB1
   refine (Or.inl ⟨hc1,?_⟩)
   exact ⟨_,sj hB1,wt Q4 J1 rfl⟩
  refine xt ?_
  have hB1:=out_ret hB1 hy1
  exact ⟨_,hB1,wt Q0 Q0 rfl⟩
 intro v3 h
 unfold shotN10 at h
 refine sg ?_
 refine wE [(2,vb true)] Q1 ?_
 refine rt ?_
 cases h
 exact Fz.v
set_option maxHeartbeats 4000000 in
theorem w_law10N5 {r} (h:law10_head=some r):Pure Tryz.prog 9 [] (vb r):=by
 refine po Tryz.tok 191 Tryz.func9 (by kernel_rfl) rfl rfl rfl ?_
 unfold law10_head at h
 refine wE [] Q0 ?_
 refine sg ?_
 refine wE [] Q0 ?_
 refine sg ?_
 obtain ⟨x1,hx1,h⟩:=bindS h
 refine CallOk.call (w_ref07_New hx1) (LeL.refl _) ?_
 obtain ⟨x2,hx2,h⟩:=bindS h
 refine CallOk.call (w_shot_New hx2) (LeL.refl _) ?_
 refine ⟨_,rfl,?_⟩
 refine wT [(1,.b 1 0)] [(1,.box [.s (mI x2.Now.Nodes),vi x2.Now.Next,vi x2.Now.Cookie,vi x2.Tick,.s (mB x2.Since),.s (mA x2.Pasts),.s (mU x2.Taken),vi x2.Next])] Q1 J1 rfl ?_
 refine sg ?_
 obtain ⟨x3,hx3,h⟩:=bindS h
 refine ⟨_,rfl,?_⟩
 refine CallOk.call (w_shot_Take hx3) (LeL.refl _) ?_
 refine ⟨_,rfl,?_⟩
 refine wT [(1,.b 1 0),(2,vi x3.2.1),(3,vi x3.2.2)] [(1,.box [.s (mI x3.1.Now.Nodes),vi x3.1.Now.Next,vi x3.1.Now.Cookie,vi x3.1.Tick,.s (mB x3.1.Since),.s (mA x3.1.Pasts),.s (mU x3.1.Taken),vi x3.1.Next])] Q3 J1 rfl ?_
 refine sg ?_
 obtain ⟨x4,hx4,h⟩:=bindS h
 refine CallOk.call (w_ref07_New hx4) (LeL.refl _) ?_
 obtain ⟨x5,hx5,h⟩:=bindS h
 refine CallOk.call (w_ref07_Add hx5) (LeL.refl _) ?_
 refine ⟨_,rfl,?_⟩
 refine wT [(1,.b 1 0),(2,vi x3.2.1),(3,vi x3.2.2),(4,.b 4 0),(5,vi x5.2.1)] [(1,.box [.s (mI x3.1.Now.Nodes),vi x3.1.Now.Next,vi x3.1.Now.Cookie,vi x3.1.Tick,.s (mB x3.1.Since),.s (mA x3.1.Pasts),.s (mU x3.1.Taken),vi x3.1.Next]),(4,.box [.s (mI x5.1.Nodes),vi x5.1.Next,vi x5.1.Cookie])] Q5 J2 rfl ?_
 refine sg ?_
 obtain ⟨x6,hx6,h⟩:=bindS h
 refine ⟨_,rfl,_,rfl,?_⟩
 refine CallOk.call (w_shot_Put hx6) (LeL.refl _) ?_
 refine ⟨_,rfl,?_⟩
 refine wT [(2,vi x3.2.1),(3,vi x3.2.2),(5,vi x5.2.1),(7,.b 7 0)] [(7,.box [.s (mI x6.Now.Nodes),vi x6.Now.Next,vi x6.Now.Cookie,vi x6.Tick,.s (mB x6.Since),.s (mA x6.Pasts),.s (mU x6.Taken),vi x6.Next])] Q4 J1 rfl ?_
 refine sg ?_
 obtain ⟨x7,hx7,h⟩:=bindS h
 refine ⟨_,rfl,?_⟩
 refine CallOk.call (w_shot_At hx7) (LeL.refl _) ?_
 refine wT [(2,vi x3.2.1),(3,vi x3.2.2),(5,vi x5.2.1),(7,.b 7 0),(8,vi x7.1),(9,.s (mI x7.2.1)),(10,vi x7.2.2)] [(7,.box [.s (mI x6.Now.Nodes),vi x6.Now.Next,vi x6.Now.Cookie,vi x6.Tick,.s (mB x6.Since),.s (mA x6.Pasts),.s (mU x6.Taken),vi x6.Next])] Q7 J1 rfl ?_
 refine sg ?_
 obtain ⟨x8,hx8,h⟩:=bindS h
 refine ⟨_,rfl,?_⟩
 refine CallOk.call (w_shot_Take hx8) (LeL.refl _) ?_
 refine ⟨_,rfl,?_⟩
 refine wT [(2,vi x3.2.1),(3,vi x3.2.2),(7,.b 7 0),(8,vi x7.1),(9,.s (mI x7.2.1)),(10,vi x7.2.2),(13,vi x8.2.2)] [(7,.box [.s (mI x6.Now.Nodes),vi x6.Now.Next,vi x6.Now.Cookie,vi x6.Tick,.s (mB x6.Since),.s (mA x6.Pasts),.s (mU x6.Taken),vi x6.Next])] Q7 J1 rfl ?_
 refine sg ?_
 obtain ⟨x9,hx9,h⟩:=bindS h
 refine ⟨_,rfl,?_⟩
 refine CallOk.call (w_shot_Take hx9) (LeL.refl _) ?_
 refine ⟨_,rfl,?_⟩
 refine wT [(2,vi x3.2.1),(3,vi x3.2.2),(7,.b 7 0),(8,vi x7.1),(9,.s (mI x7.2.1)),(10,vi x7.2.2),(13,vi x8.2.2),(16,vi x9.2.2)] [(7,.box [.s (mI x6.Now.Nodes),vi x6.Now.Next,vi x6.Now.Cookie,vi x6.Tick,.s (mB x6.Since),.s (mA x6.Pasts),.s (mU x6.Taken),vi x6.Next])] Q8 J1 rfl ?_
 refine sg ?_
 obtain ⟨x10,hx10,h⟩:=bindS h
 refine ⟨_,rfl,?_⟩
 refine CallOk.call (w_shot_Drop hx10) (LeL.refl _) ?_
 refine ⟨_,rfl,?_⟩
 refine wT [(2,vi x3.2.1),(3,vi x3.2.2),(7,.b 7 0),(8,vi x7.1),(9,.s (mI x7.2.1)),(10,vi x7.2.2),(13,vi x8.2.2),(16,vi x9.2.2),(17,.b 17 0),(18,vi x10.2)] [(7,.box [.s (mI x6.Now.Nodes),vi x6.Now.Next,vi x6.Now.Cookie,vi x6.Tick,.s (mB x6.Since),.s (mA x6.Pasts),.s (mU x6.Taken),vi x6.Next]),(17,.box [.s (mI x10.1.Now.Nodes),vi x10.1.Now.Next,vi x10.1.Now.Cookie,vi x10.1.Tick,.s (mB x10.1.Since),.s (mA x10.1.Pasts),.s (mU x10.1.Taken),vi x10.1.Next])] ⟨lr,lr,Q8⟩ J2 rfl ?_
 refine sg ?_
 obtain ⟨x11,hx11,h⟩:=bindS h
 refine ⟨_,rfl,?_⟩
 refine CallOk.call (w_shot_Drop hx11) (LeL.refl _) ?_
 refine ⟨_,rfl,?_⟩
 refine wT [(2,vi x3.2.1),(3,vi x3.2.2),(7,.b 7 0),(8,vi x7.1),(9,.s (mI x7.2.1)),(10,vi x7.2.2),(13,vi x8.2.2),(16,vi x9.2.2),(17,.b 17 0),(18,vi x10.2),(20,vi x11.2)] [(7,.box [.s (mI x6.Now.Nodes),vi x6.Now.Next,vi x6.Now.Cookie,vi x6.Tick,.s (mB x6.Since),.s (mA x6.Pasts),.s (mU x6.Taken),vi x6.Next]),(17,.box [.s (mI x10.1.Now.Nodes),vi x10.1.Now.Next,vi x10.1.Now.Cookie,vi x10.1.Tick,.s (mB x10.1.Since),.s (mA x10.1.Pasts),.s (mU x10.1.Taken),vi x10.1.Next])] ⟨lr,lr,lr,Q8⟩ J2 rfl ?_
 refine sg ?_
 obtain ⟨x12,hx12,h⟩:=bindS h
 refine ⟨_,rfl,?_⟩
 refine CallOk.call (w_shot_At hx12) (LeL.refl _) ?_
 refine wT [(2,vi x3.2.1),(3,vi x3.2.2),(7,.b 7 0),(8,vi x7.1),(9,.s (mI x7.2.1)),(10,vi x7.2.2),(13,vi x8.2.2),(16,vi x9.2.2),(17,.b 17 0),(18,vi x10.2),(20,vi x11.2),(23,vi x12.2.2)] [(7,.box [.s (mI x6.Now.Nodes),vi x6.Now.Next,vi x6.Now.Cookie,vi x6.Tick,.s (mB x6.Since),.s (mA x6.Pasts),.s (mU x6.Taken),vi x6.Next]),(17,.box [.s (mI x10.1.Now.Nodes),vi x10.1.Now.Next,vi x10.1.Now.Cookie,vi x10.1.Tick,.s (mB x10.1.Since),.s (mA x10.1.Pasts),.s (mU x10.1.Taken),vi x10.1.Next])] ⟨lr,lr,lr,lr,Q8⟩ J2 rfl ?_
 refine sq ?_
 obtain ⟨v1,hv1,h⟩:=bindS h
 refine Ok.seqw ⟨Cat.tab [(2,vi x3.2.1),(3,vi x3.2.2),(7,.b 7 0),(8,vi x7.1),(9,.s (mI x7.2.1)),(10,vi x7.2.2),(13,vi x8.2.2),(16,vi x9.2.2),(17,.b 17 0),(18,vi x10.2),(20,vi x11.2),(23,vi x12.2.2),(94,vb v1)],[(7,.box [.s (mI x6.Now.Nodes),vi x6.Now.Next,vi x6.Now.Cookie,vi x6.Tick,.s (mB x6.Since),.s (mA x6.Pasts),.s (mU x6.Taken),vi x6.Next]),(17,.box [.s (mI x10.1.Now.Nodes),vi x10.1.Now.Next,vi x10.1.Now.Cookie,vi x10.1.Tick,.s (mB x10.1.Since),.s (mA x10.1.Pasts),.s (mU x10.1.Taken),vi x10.1.Next])]⟩ ?_ ?_
 ·refine rg ?_
  refine ⟨_,List.length_map _,fun _=>?_⟩
  obtain ⟨c1,hg1,hv1⟩:=bindS hv1
  refine Br.itf hg1 (fun hb hg1=>?_) fun hb hg1=>?_
  ·cases hg1
   obtain ⟨c2,hg2,hv1⟩:=bindS hv1
   replace hg2:=iteT hg2
   cases hg2
   cases hv1
   exact wt ⟨lr,lr,lr,lr,lr,Q8⟩ J2 rfl
  refine ⟨_,rfl,_,List.length_map _,fun _=>?_⟩
  cases hg1
  obtain ⟨c2,hg3,hv1⟩:=bindS hv1
  refine Br.itf hg3 (fun hb hg3=>?_) fun hb hg3=>?_
  ·cases hg3
   cases hv1
   exact wt ⟨lr,lr,lr,lr,lr,Q8⟩ J2 rfl
  refine ⟨_,rfl,_,List.length_map _,fun _=>?_⟩
  cases hg3
  cases hv1
  exact wt ⟨lr,lr,lr,lr,lr,Q8⟩ J2 rfl
 refine cn 94 (v1) rfl h (fun hb h=>?_) fun hb h=>?_
 ·refine sg ?_
  refine wE [(0,vb false)] Q1 ?_
  refine rt ?_
  cases h
  exact Fz.v
 refine sk ?_
 obtain ⟨v2,hv2,h⟩:=bindS h
 refine Ok.seqw ⟨Cat.tab [(0,vb v2)],[]⟩ ?_ ?_
 ·refine rg ?_
  obtain ⟨c3,hg4,hv2⟩:=bindS hv2
  refine Br.ite hg4 (fun hb hg4=>?_) fun hb hg4=>?_
  ·cases hg4
   obtain ⟨c4,hg5,hv2⟩:=bindS hv2
   refine Br.ite hg5 (fun hb hg5=>?_) fun hb hg5=>?_
   ·cases hg5
    obtain ⟨c5,hg6,hv2⟩:=bindS hv2
    refine Br.ite hg6 (fun hb hg6=>?_) fun hb hg6=>?_
    ·cases hg6
     obtain ⟨c6,hg7,hv2⟩:=bindS hv2
     refine Br.ite hg7 (fun hb hg7=>?_) fun hb hg7=>?_
     ·obtain ⟨x13,hx13,hg7⟩:=bindS hg7
      refine ⟨_,idx_nat hx13,_,idx_row hx13,_,rfl,_,List.length_map _,fun _=>?_⟩
      cases hg7
      obtain ⟨c7,hg8,hv2⟩:=bindS hv2
      refine Br.ite hg8 (fun hb hg8=>?_) fun hb hg8=>?_
      ·refine ⟨_,rfl,?_⟩
       cases hg8
       obtain ⟨c8,hg9,hv2⟩:=bindS hv2
       refine Br.ite hg9 (fun hb hg9=>?_) fun hb hg9=>?_
       ·obtain ⟨x14,hx14,hg9⟩:=bindS hg9
        refine ⟨_,rfl,_,idx_nat hx14,_,idx_row hx14,_,rfl,?_⟩
        cases hg9
        obtain ⟨c9,hg10,hv2⟩:=bindS hv2
        refine Br.ite hg10 (fun hb hg10=>?_) fun hb hg10=>?_
        ·obtain ⟨x15,hx15,hg10⟩:=bindS hg10
         refine ⟨_,rfl,_,idx_nat hx15,_,idx_row hx15,_,rfl,?_⟩
         cases hg10
         obtain ⟨c10,hg11,hv2⟩:=bindS hv2
         refine Br.ite hg11 (fun hb hg11=>?_) fun hb hg11=>?_
         ·obtain ⟨x16,hx16,hg11⟩:=bindS hg11
          refine ⟨_,rfl,_,idx_nat hx16,_,idx_row hx16,_,rfl,?_⟩
          cases hg11
          obtain ⟨c11,hg12,hv2⟩:=bindS hv2
          refine Br.ite hg12 (fun hb hg12=>?_) fun hb hg12=>?_
          ·cases hg12
           obtain ⟨c12,hg13,hv2⟩:=bindS hv2
           refine Br.ite hg13 (fun hb hg13=>?_) fun hb hg13=>?_
           ·cases hg13
            obtain ⟨c13,hg14,hv2⟩:=bindS hv2
            refine Br.ite hg14 (fun hb hg14=>?_) fun hb hg14=>?_
            ·cases hg14
             obtain ⟨c14,hg15,hv2⟩:=bindS hv2
             refine Br.ite hg15 (fun hb hg15=>?_) fun hb hg15=>?_
             ·refine ⟨_,rfl,_,List.length_map _,fun _=>?_⟩
              cases hg15
              obtain ⟨c15,hg16,hv2⟩:=bindS hv2
              refine Br.ite hg16 (fun hb hg16=>?_) fun hb hg16=>?_
              ·refine ⟨_,rfl,_,List.length_map _,fun _=>?_⟩
               cases hg16
               obtain ⟨c16,hg17,hv2⟩:=bindS hv2
               refine Br.ite hg17 (fun hb hg17=>?_) fun hb hg17=>?_
               ·cases hg17
                obtain ⟨c17,hg18,hv2⟩:=bindS hv2
                refine Br.ite hg18 (fun hb hg18=>?_) fun hb hg18=>?_
                ·cases hg18
                 obtain ⟨c18,hg19,hv2⟩:=bindS hv2
                 refine Br.ite hg19 (fun hb hg19=>?_) fun hb hg19=>?_
                 ·obtain ⟨x17,hx17,hg19⟩:=bindS hg19
                  refine ⟨_,rfl,?_⟩
                  refine CallOk.call (w_shotN3 hx17) (LeL.refl _) ?_
                  cases hg19
                  obtain ⟨c19,hg20,hv2⟩:=bindS hv2
                  refine Br.ite hg20 (fun hb hg20=>?_) fun hb hg20=>?_
                  ·obtain ⟨x18,hx18,hg20⟩:=bindS hg20
                   refine CallOk.call (w_shotN3 hx18) (.cons (Le.a (.cons (Le.nil) (.cons (lr) (.cons (lr) (.cons (lr) (.cons (Le.nil) (.cons (Le.nil) (.cons (Le.nil) (.cons (lr) (.nil)))))))))) (.nil)) ?_
                   cases hg20
                   obtain ⟨c20,hg21,hv2⟩:=bindS hv2
                   refine Br.ite hg21 (fun hb hg21=>?_) fun hb hg21=>?_
                   ·refine ⟨_,rfl,?_⟩
                    cases hg21
                    cases hv2
                    exact wt Q1 Q0 rfl
                   cases hg21
                   cases hv2
                   exact wt Q1 Q0 rfl
                  cases hg20
                  obtain ⟨c20,hg22,hv2⟩:=bindS hv2
                  replace hg22:=iteF hg22
                  cases hg22
                  cases hv2
                  exact wt Q1 Q0 rfl
                 cases hg19
                 obtain ⟨c19,hg23,hv2⟩:=bindS hv2
                 replace hg23:=iteF hg23
                 cases hg23
                 obtain ⟨c20,hg24,hv2⟩:=bindS hv2
                 replace hg24:=iteF hg24
                 cases hg24
                 cases hv2
                 exact wt Q1 Q0 rfl
                cases hg18
                obtain ⟨c18,hg25,hv2⟩:=bindS hv2
                replace hg25:=iteF hg25
                cases hg25
                obtain ⟨c19,hg26,hv2⟩:=bindS hv2
                replace hg26:=iteF hg26
                cases hg26
                obtain ⟨c20,hg27,hv2⟩:=bindS hv2
                replace hg27:=iteF hg27
                cases hg27
                cases hv2
                exact wt Q1 Q0 rfl
               cases hg17
               obtain ⟨c17,hg28,hv2⟩:=bindS hv2
               replace hg28:=iteF hg28
               cases hg28
               obtain ⟨c18,hg29,hv2⟩:=bindS hv2
               replace hg29:=iteF hg29
               cases hg29
               obtain ⟨c19,hg30,hv2⟩:=bindS hv2
               replace hg30:=iteF hg30
               cases hg30
               obtain ⟨c20,hg31,hv2⟩:=bindS hv2
               replace hg31:=iteF hg31
               cases hg31
               cases hv2
               exact wt Q1 Q0 rfl
              cases hg16
              obtain ⟨c16,hg32,hv2⟩:=bindS hv2
              replace hg32:=iteF hg32
              cases hg32
              obtain ⟨c17,hg33,hv2⟩:=bindS hv2
              replace hg33:=iteF hg33
              cases hg33
              obtain ⟨c18,hg34,hv2⟩:=bindS hv2
              replace hg34:=iteF hg34
              cases hg34
              obtain ⟨c19,hg35,hv2⟩:=bindS hv2
              replace hg35:=iteF hg35
              cases hg35
              obtain ⟨c20,hg36,hv2⟩:=bindS hv2
              replace hg36:=iteF hg36
              cases hg36
              cases hv2
              exact wt Q1 Q0 rfl
             cases hg15
             obtain ⟨c15,hg37,hv2⟩:=bindS hv2
             replace hg37:=iteF hg37
             cases hg37
             obtain ⟨c16,hg38,hv2⟩:=bindS hv2
             replace hg38:=iteF hg38
             cases hg38
             obtain ⟨c17,hg39,hv2⟩:=bindS hv2
             replace hg39:=iteF hg39
             cases hg39
             obtain ⟨c18,hg40,hv2⟩:=bindS hv2
             replace hg40:=iteF hg40
             cases hg40
             obtain ⟨c19,hg41,hv2⟩:=bindS hv2
             replace hg41:=iteF hg41
             cases hg41
             obtain ⟨c20,hg42,hv2⟩:=bindS hv2
             replace hg42:=iteF hg42
             cases hg42
             cases hv2
             exact wt Q1 Q0 rfl
            cases hg14
            obtain ⟨c14,hg43,hv2⟩:=bindS hv2
            replace hg43:=iteF hg43
            cases hg43
            obtain ⟨c15,hg44,hv2⟩:=bindS hv2
            replace hg44:=iteF hg44
            cases hg44
            obtain ⟨c16,hg45,hv2⟩:=bindS hv2
            replace hg45:=iteF hg45
            cases hg45
            obtain ⟨c17,hg46,hv2⟩:=bindS hv2
            replace hg46:=iteF hg46
            cases hg46
            obtain ⟨c18,hg47,hv2⟩:=bindS hv2
            replace hg47:=iteF hg47
            cases hg47
            obtain ⟨c19,hg48,hv2⟩:=bindS hv2
            replace hg48:=iteF hg48
            cases hg48
            obtain ⟨c20,hg49,hv2⟩:=bindS hv2
            replace hg49:=iteF hg49
            cases hg49
            cases hv2
            exact wt Q1 Q0 rfl
           cases hg13
           obtain ⟨c13,hg50,hv2⟩:=bindS hv2
           replace hg50:=iteF hg50
           cases hg50
           obtain ⟨c14,hg51,hv2⟩:=bindS hv2
           replace hg51:=iteF hg51
           cases hg51
           obtain ⟨c15,hg52,hv2⟩:=bindS hv2
           replace hg52:=iteF hg52
           cases hg52
           obtain ⟨c16,hg53,hv2⟩:=bindS hv2
           replace hg53:=iteF hg53
           cases hg53
           obtain ⟨c17,hg54,hv2⟩:=bindS hv2
           replace hg54:=iteF hg54
           cases hg54
           obtain ⟨c18,hg55,hv2⟩:=bindS hv2
           replace hg55:=iteF hg55
           cases hg55
           obtain ⟨c19,hg56,hv2⟩:=bindS hv2
           replace hg56:=iteF hg56
           cases hg56
           obtain ⟨c20,hg57,hv2⟩:=bindS hv2
           replace hg57:=iteF hg57
           cases hg57
           cases hv2
           exact wt Q1 Q0 rfl
          cases hg12
          obtain ⟨c12,hg58,hv2⟩:=bindS hv2
          replace hg58:=iteF hg58
          cases hg58
          obtain ⟨c13,hg59,hv2⟩:=bindS hv2
          replace hg59:=iteF hg59
          cases hg59
          obtain ⟨c14,hg60,hv2⟩:=bindS hv2
          replace hg60:=iteF hg60
          cases hg60
          obtain ⟨c15,hg61,hv2⟩:=bindS hv2
          replace hg61:=iteF hg61
          cases hg61
          obtain ⟨c16,hg62,hv2⟩:=bindS hv2
          replace hg62:=iteF hg62
          cases hg62
          obtain ⟨c17,hg63,hv2⟩:=bindS hv2
          replace hg63:=iteF hg63
          cases hg63
          obtain ⟨c18,hg64,hv2⟩:=bindS hv2
          replace hg64:=iteF hg64
          cases hg64
          obtain ⟨c19,hg65,hv2⟩:=bindS hv2
          replace hg65:=iteF hg65
          cases hg65
          obtain ⟨c20,hg66,hv2⟩:=bindS hv2
          replace hg66:=iteF hg66
          cases hg66
          cases hv2
          exact wt Q1 Q0 rfl
         cases hg11
         obtain ⟨c11,hg67,hv2⟩:=bindS hv2
         replace hg67:=iteF hg67
         cases hg67
         obtain ⟨c12,hg68,hv2⟩:=bindS hv2
         replace hg68:=iteF hg68
         cases hg68
         obtain ⟨c13,hg69,hv2⟩:=bindS hv2
         replace hg69:=iteF hg69
         cases hg69
         obtain ⟨c14,hg70,hv2⟩:=bindS hv2
         replace hg70:=iteF hg70
         cases hg70
         obtain ⟨c15,hg71,hv2⟩:=bindS hv2
         replace hg71:=iteF hg71
         cases hg71
         obtain ⟨c16,hg72,hv2⟩:=bindS hv2
         replace hg72:=iteF hg72
         cases hg72
         obtain ⟨c17,hg73,hv2⟩:=bindS hv2
         replace hg73:=iteF hg73
         cases hg73
         obtain ⟨c18,hg74,hv2⟩:=bindS hv2
         replace hg74:=iteF hg74
         cases hg74
         obtain ⟨c19,hg75,hv2⟩:=bindS hv2
         replace hg75:=iteF hg75
         cases hg75
         obtain ⟨c20,hg76,hv2⟩:=bindS hv2
         replace hg76:=iteF hg76
         cases hg76
         cases hv2
         exact wt Q1 Q0 rfl
        cases hg10
        obtain ⟨c10,hg77,hv2⟩:=bindS hv2
        replace hg77:=iteF hg77
        cases hg77
        obtain ⟨c11,hg78,hv2⟩:=bindS hv2
        replace hg78:=iteF hg78
        cases hg78
        obtain ⟨c12,hg79,hv2⟩:=bindS hv2
        replace hg79:=iteF hg79
        cases hg79
        obtain ⟨c13,hg80,hv2⟩:=bindS hv2
        replace hg80:=iteF hg80
        cases hg80
        obtain ⟨c14,hg81,hv2⟩:=bindS hv2
        replace hg81:=iteF hg81
        cases hg81
        obtain ⟨c15,hg82,hv2⟩:=bindS hv2
        replace hg82:=iteF hg82
        cases hg82
        obtain ⟨c16,hg83,hv2⟩:=bindS hv2
        replace hg83:=iteF hg83
        cases hg83
        obtain ⟨c17,hg84,hv2⟩:=bindS hv2
        replace hg84:=iteF hg84
        cases hg84
        obtain ⟨c18,hg85,hv2⟩:=bindS hv2
        replace hg85:=iteF hg85
        cases hg85
        obtain ⟨c19,hg86,hv2⟩:=bindS hv2
        replace hg86:=iteF hg86
        cases hg86
        obtain ⟨c20,hg87,hv2⟩:=bindS hv2
        replace hg87:=iteF hg87
        cases hg87
        cases hv2
        exact wt Q1 Q0 rfl
       cases hg9
       obtain ⟨c9,hg88,hv2⟩:=bindS hv2
       replace hg88:=iteF hg88
       cases hg88
       obtain ⟨c10,hg89,hv2⟩:=bindS hv2
       replace hg89:=iteF hg89
       cases hg89
       obtain ⟨c11,hg90,hv2⟩:=bindS hv2
       replace hg90:=iteF hg90
       cases hg90
       obtain ⟨c12,hg91,hv2⟩:=bindS hv2
       replace hg91:=iteF hg91
       cases hg91
       obtain ⟨c13,hg92,hv2⟩:=bindS hv2
       replace hg92:=iteF hg92
       cases hg92
       obtain ⟨c14,hg93,hv2⟩:=bindS hv2
       replace hg93:=iteF hg93
       cases hg93
       obtain ⟨c15,hg94,hv2⟩:=bindS hv2
       replace hg94:=iteF hg94
       cases hg94
       obtain ⟨c16,hg95,hv2⟩:=bindS hv2
       replace hg95:=iteF hg95
       cases hg95
       obtain ⟨c17,hg96,hv2⟩:=bindS hv2
       replace hg96:=iteF hg96
       cases hg96
       obtain ⟨c18,hg97,hv2⟩:=bindS hv2
       replace hg97:=iteF hg97
       cases hg97
       obtain ⟨c19,hg98,hv2⟩:=bindS hv2
       replace hg98:=iteF hg98
       cases hg98
       obtain ⟨c20,hg99,hv2⟩:=bindS hv2
       replace hg99:=iteF hg99
       cases hg99
       cases hv2
       exact wt Q1 Q0 rfl
      cases hg8
      obtain ⟨c8,hg100,hv2⟩:=bindS hv2
      replace hg100:=iteF hg100
      cases hg100
      obtain ⟨c9,hg101,hv2⟩:=bindS hv2
      replace hg101:=iteF hg101
      cases hg101
      obtain ⟨c10,hg102,hv2⟩:=bindS hv2
      replace hg102:=iteF hg102
      cases hg102
      obtain ⟨c11,hg103,hv2⟩:=bindS hv2
      replace hg103:=iteF hg103
      cases hg103
      obtain ⟨c12,hg104,hv2⟩:=bindS hv2
      replace hg104:=iteF hg104
      cases hg104
      obtain ⟨c13,hg105,hv2⟩:=bindS hv2
      replace hg105:=iteF hg105
      cases hg105
      obtain ⟨c14,hg106,hv2⟩:=bindS hv2
      replace hg106:=iteF hg106
      cases hg106
      obtain ⟨c15,hg107,hv2⟩:=bindS hv2
      replace hg107:=iteF hg107
      cases hg107
      obtain ⟨c16,hg108,hv2⟩:=bindS hv2
      replace hg108:=iteF hg108
      cases hg108
      obtain ⟨c17,hg109,hv2⟩:=bindS hv2
      replace hg109:=iteF hg109
      cases hg109
      obtain ⟨c18,hg110,hv2⟩:=bindS hv2
      replace hg110:=iteF hg110
      cases hg110
      obtain ⟨c19,hg111,hv2⟩:=bindS hv2
      replace hg111:=iteF hg111
      cases hg111
      obtain ⟨c20,hg112,hv2⟩:=bindS hv2
      replace hg112:=iteF hg112
      cases hg112
      cases hv2
      exact wt Q1 Q0 rfl
     cases hg7
     obtain ⟨c7,hg113,hv2⟩:=bindS hv2
     replace hg113:=iteF hg113
     cases hg113
     obtain ⟨c8,hg114,hv2⟩:=bindS hv2
     replace hg114:=iteF hg114
     cases hg114
     obtain ⟨c9,hg115,hv2⟩:=bindS hv2
     replace hg115:=iteF hg115
     cases hg115
     obtain ⟨c10,hg116,hv2⟩:=bindS hv2
     replace hg116:=iteF hg116
     cases hg116
     obtain ⟨c11,hg117,hv2⟩:=bindS hv2
     replace hg117:=iteF hg117
     cases hg117
     obtain ⟨c12,hg118,hv2⟩:=bindS hv2
     replace hg118:=iteF hg118
     cases hg118
     obtain ⟨c13,hg119,hv2⟩:=bindS hv2
     replace hg119:=iteF hg119
     cases hg119
     obtain ⟨c14,hg120,hv2⟩:=bindS hv2
     replace hg120:=iteF hg120
     cases hg120
     obtain ⟨c15,hg121,hv2⟩:=bindS hv2
     replace hg121:=iteF hg121
     cases hg121
     obtain ⟨c16,hg122,hv2⟩:=bindS hv2
     replace hg122:=iteF hg122
     cases hg122
     obtain ⟨c17,hg123,hv2⟩:=bindS hv2
     replace hg123:=iteF hg123
     cases hg123
     obtain ⟨c18,hg124,hv2⟩:=bindS hv2
     replace hg124:=iteF hg124
     cases hg124
     obtain ⟨c19,hg125,hv2⟩:=bindS hv2
     replace hg125:=iteF hg125
     cases hg125
     obtain ⟨c20,hg126,hv2⟩:=bindS hv2
     replace hg126:=iteF hg126
     cases hg126
     cases hv2
     exact wt Q1 Q0 rfl
    cases hg6
    obtain ⟨c6,hg127,hv2⟩:=bindS hv2
    replace hg127:=iteF hg127
    cases hg127
    obtain ⟨c7,hg128,hv2⟩:=bindS hv2
    replace hg128:=iteF hg128
    cases hg128
    obtain ⟨c8,hg129,hv2⟩:=bindS hv2
    replace hg129:=iteF hg129
    cases hg129
    obtain ⟨c9,hg130,hv2⟩:=bindS hv2
    replace hg130:=iteF hg130
    cases hg130
    obtain ⟨c10,hg131,hv2⟩:=bindS hv2
    replace hg131:=iteF hg131
    cases hg131
    obtain ⟨c11,hg132,hv2⟩:=bindS hv2
    replace hg132:=iteF hg132
    cases hg132
    obtain ⟨c12,hg133,hv2⟩:=bindS hv2
    replace hg133:=iteF hg133
    cases hg133
    obtain ⟨c13,hg134,hv2⟩:=bindS hv2
    replace hg134:=iteF hg134
    cases hg134
    obtain ⟨c14,hg135,hv2⟩:=bindS hv2
    replace hg135:=iteF hg135
    cases hg135
    obtain ⟨c15,hg136,hv2⟩:=bindS hv2
    replace hg136:=iteF hg136
    cases hg136
    obtain ⟨c16,hg137,hv2⟩:=bindS hv2
    replace hg137:=iteF hg137
    cases hg137
    obtain ⟨c17,hg138,hv2⟩:=bindS hv2
    replace hg138:=iteF hg138
    cases hg138
    obtain ⟨c18,hg139,hv2⟩:=bindS hv2
    replace hg139:=iteF hg139
    cases hg139
    obtain ⟨c19,hg140,hv2⟩:=bindS hv2
    replace hg140:=iteF hg140
    cases hg140
    obtain ⟨c20,hg141,hv2⟩:=bindS hv2
    replace hg141:=iteF hg141
    cases hg141
    cases hv2
    exact wt Q1 Q0 rfl
   cases hg5
   obtain ⟨c5,hg142,hv2⟩:=bindS hv2
   replace hg142:=iteF hg142
   cases hg142
   obtain ⟨c6,hg143,hv2⟩:=bindS hv2
   replace hg143:=iteF hg143
   cases hg143
   obtain ⟨c7,hg144,hv2⟩:=bindS hv2
   replace hg144:=iteF hg144
   cases hg144
   obtain ⟨c8,hg145,hv2⟩:=bindS hv2
   replace hg145:=iteF hg145
   cases hg145
   obtain ⟨c9,hg146,hv2⟩:=bindS hv2
   replace hg146:=iteF hg146
   cases hg146
   obtain ⟨c10,hg147,hv2⟩:=bindS hv2
   replace hg147:=iteF hg147
   cases hg147
   obtain ⟨c11,hg148,hv2⟩:=bindS hv2
   replace hg148:=iteF hg148
   cases hg148
   obtain ⟨c12,hg149,hv2⟩:=bindS hv2
   replace hg149:=iteF hg149
   cases hg149
   obtain ⟨c13,hg150,hv2⟩:=bindS hv2
   replace hg150:=iteF hg150
   cases hg150
   obtain ⟨c14,hg151,hv2⟩:=bindS hv2
   replace hg151:=iteF hg151
   cases hg151
   obtain ⟨c15,hg152,hv2⟩:=bindS hv2
   replace hg152:=iteF hg152
   cases hg152
   obtain ⟨c16,hg153,hv2⟩:=bindS hv2
   replace hg153:=iteF hg153
   cases hg153
   obtain ⟨c17,hg154,hv2⟩:=bindS hv2
   replace hg154:=iteF hg154
   cases hg154
   obtain ⟨c18,hg155,hv2⟩:=bindS hv2
   replace hg155:=iteF hg155
   cases hg155
   obtain ⟨c19,hg156,hv2⟩:=bindS hv2
   replace hg156:=iteF hg156
   cases hg156
   obtain ⟨c20,hg157,hv2⟩:=bindS hv2
   replace hg157:=iteF hg157
   cases hg157
   cases hv2
   exact wt Q1 Q0 rfl
  cases hg4
  obtain ⟨c4,hg158,hv2⟩:=bindS hv2
  replace hg158:=iteF hg158
  cases hg158
  obtain ⟨c5,hg159,hv2⟩:=bindS hv2
  replace hg159:=iteF hg159
  cases hg159
  obtain ⟨c6,hg160,hv2⟩:=bindS hv2
  replace hg160:=iteF hg160
  cases hg160
  obtain ⟨c7,hg161,hv2⟩:=bindS hv2
  replace hg161:=iteF hg161
  cases hg161
  obtain ⟨c8,hg162,hv2⟩:=bindS hv2
  replace hg162:=iteF hg162
  cases hg162
  obtain ⟨c9,hg163,hv2⟩:=bindS hv2
  replace hg163:=iteF hg163
  cases hg163
  obtain ⟨c10,hg164,hv2⟩:=bindS hv2
  replace hg164:=iteF hg164
  cases hg164
  obtain ⟨c11,hg165,hv2⟩:=bindS hv2
  replace hg165:=iteF hg165
  cases hg165
  obtain ⟨c12,hg166,hv2⟩:=bindS hv2
  replace hg166:=iteF hg166
  cases hg166
  obtain ⟨c13,hg167,hv2⟩:=bindS hv2
  replace hg167:=iteF hg167
  cases hg167
  obtain ⟨c14,hg168,hv2⟩:=bindS hv2
  replace hg168:=iteF hg168
  cases hg168
  obtain ⟨c15,hg169,hv2⟩:=bindS hv2
  replace hg169:=iteF hg169
  cases hg169
  obtain ⟨c16,hg170,hv2⟩:=bindS hv2
  replace hg170:=iteF hg170
  cases hg170
  obtain ⟨c17,hg171,hv2⟩:=bindS hv2
  replace hg171:=iteF hg171
  cases hg171
  obtain ⟨c18,hg172,hv2⟩:=bindS hv2
  replace hg172:=iteF hg172
  cases hg172
  obtain ⟨c19,hg173,hv2⟩:=bindS hv2
  replace hg173:=iteF hg173
  cases hg173
  obtain ⟨c20,hg174,hv2⟩:=bindS hv2
  replace hg174:=iteF hg174
  cases hg174
  cases hv2
  exact wt Q1 Q0 rfl
 refine rt ?_
 cases h
 exact Fz.v
theorem w_law10N2 {p_l} {r} (h:law10_Great p_l=some r):Pure Tryz.prog 10 [(.s (mE p_l))] (vb r):=by
 refine po Tryz.tok 21 Tryz.func10 (by kernel_rfl) rfl rfl rfl ?_
 unfold law10_Great at h
 refine wE [(0,.s (mE p_l))] Q1 ?_
 refine sg ?_
 refine wE [(0,.s (mE p_l))] Q1 ?_
 refine sq ?_
 refine sg ?_
 refine ⟨_,List.length_map _,fun _=>?_⟩
 refine wE [(0,.s (mE p_l)),(6,vb (decide ((p_l.length:Int) > 60)))] Q2 ?_
 refine cn 6 (decide ((p_l.length:Int) > 60)) rfl h (fun hb h=>?_) fun hb h=>?_
 ·refine sg ?_
  refine wE [(2,vb true)] Q1 ?_
  refine rt ?_
  cases h
  exact Fz.v
 refine sk ?_
 refine Ok.seqj (fun v1=>⟨Cat.tab [],[]⟩) (fun v1=>law10N2 v1=some r) ?_ ?_
 ·refine sg ?_
  refine wE [(0,.s (mE p_l)),(3,vi (0))] Q2 ?_
  refine bl ?_
  refine Ok.loop (fun (s1:Int)=>⟨Cat.tab [(0,.s (mE p_l)),(3,vi s1)],[]⟩) (law10N1 p_l) (s0:=0) h (wt Q2 Q0 rfl) ?_
  intro s1 y1 hB1 hy1
  unfold law10N1 at hB1
  refine sq ?_
  refine sg ?_
  refine ⟨_,List.length_map _,fun _=>?_⟩
  refine wE [(0,.s (mE p_l)),(3,vi s1),(10,vb (decide (s1 < (p_l.length:Int))))] Q3 ?_
  refine cn 10 (decide (s1 < (p_l.length:Int))) rfl hB1 (fun hb hB1=>?_) fun hb hB1=>?_
  ·refine sk ?_
   refine sq ?_
   refine bl ?_
   refine sg ?_
   obtain ⟨x1,hx1,hB1⟩:=bindS hB1
   refine ⟨_,idx_nat hx1,_,idx_row hx1,_,rfl,_,List.length_map _,fun _=>?_⟩
   refine wE [(0,.s (mE p_l)),(3,vi s1),(20,vb (decide ((x1.S.Data.length:Int) > 5000)))] Q3 ?_
   refine cn 20 (decide ((x1.S.Data.length:Int) > 5000)) rfl hB1 (fun hb hB1=>?_) fun hb hB1=>?_
   ·refine sg ?_
    refine wE [(2,vb true)] Q1 ?_
    refine rt ?_
    have hB1:=out_ret hB1 hy1
    cases hB1
    exact Fz.v
   refine sk ?_
   refine rg ?_
   obtain ⟨hc1,hB1⟩:=chk_some hB1
   refine (Or.inl ⟨hc1,?_⟩)
   exact ⟨_,sj hB1,wt Q2 Q0 rfl⟩
  refine xt ?_
  have hB1:=out_ret hB1 hy1
  exact ⟨_,hB1,wt Q0 Q0 rfl⟩
 intro v1 h
 unfold law10N2 at h
 refine sg ?_
 refine wE [(2,vb false)] Q1 ?_
 refine rt ?_
 cases h
 exact Fz.v
theorem w_ref10_New {p_t} {r} (h:ref10_New p_t=some r):Pure Tryz.prog 30 [(.a [(.s (mI p_t.Nodes)),(vi p_t.Next),(vi p_t.Cookie)])] (.a [(.s (mI r.Now.Nodes)),(vi r.Now.Next),(vi r.Now.Cookie),(vi r.Tick),(.s (mB r.Since)),(.s (mA r.Pasts)),(.s (mU r.Taken)),(vi r.Next)]):=by
 refine po Tryz.tok 9 Tryz.func30 (by kernel_rfl) rfl rfl rfl ?_
 unfold ref10_New at h
 refine wE [(0,.a [.s (mI p_t.Nodes),vi p_t.Next,vi p_t.Cookie])] Q1 ?_
 refine sg ?_
 refine wT [(1,.b 1 0),(2,.b 2 0)] [(1,.box [.s (mI p_t.Nodes),vi p_t.Next,vi p_t.Cookie]),(2,.box [.v (.slice none 0 0),vi (0),vi (0),vi (0),.v (.slice none 0 0),.v (.slice none 0 0),.v (.slice none 0 0),vi (0)])] Q2 J2 rfl ?_
 refine sq ?_
 refine Ok.draw (m:=6) (MD:=⟨[]⟩) (CH:=⟨[]⟩) Tryz.tok Tryz.mixed (by kernel_rfl) ?_
 obtain ⟨hc1,h⟩:=chk_some h
 refine ⟨_,⟨_,rfl,rfl⟩,_,rfl,_,⟨_,rfl,rfl⟩,_,⟨_,List.length_map _,fun _=>rfl⟩,_,⟨_,_,mk_nat hc1,mk_nat hc1,Nat.le_refl _,mk_le (by decide) hc1,hc1.2,_,(List.map_replicate (f:=Go.Cat.encI) (a:=(0:Int))).symm,rfl⟩,_,rfl,Q0,_,rfl,?_⟩
 refine wT [(2,.b 2 0)] [(2,.box [.s (mI p_t.Nodes),vi p_t.Next,vi p_t.Cookie,vi (0),.s (mB (List.replicate (p_t.Nodes.length:Int).toNat (0:Int))),.v (.slice none 0 0),.v (.slice none 0 0),vi (1)])] Q1 J1 rfl ?_
 refine rt ?_
 cases h
 exact ⟨_,rfl,(Fz.a (.cons Fz.s (.cons Fz.v (.cons Fz.v (.cons Fz.v (.cons Fz.s (.cons Fz.nil (.cons Fz.nil (.cons Fz.v .nil)))))))))⟩
theorem w_law07N3 {p_t} {p_n} {r} (h:law07_Node p_t p_n=some r):Pure Tryz.prog 18 [(.a [(.s (mI p_t.Nodes)),(vi p_t.Next),(vi p_t.Cookie)]),(vu p_n)] (vi r):=by
 refine po Tryz.tok 26 Tryz.func18 (by kernel_rfl) rfl rfl rfl ?_
 unfold law07_Node at h
 refine wE [(0,.a [.s (mI p_t.Nodes),vi p_t.Next,vi p_t.Cookie]),(1,vu p_n)] Q2 ?_
 refine sg ?_
 refine wT [(1,vu p_n),(2,.b 2 0)] [(2,.box [.s (mI p_t.Nodes),vi p_t.Next,vi p_t.Cookie])] Q2 J1 rfl ?_
 refine sg ?_
 obtain ⟨hc1,h⟩:=chk_some h
 obtain ⟨hc2,h⟩:=chk_some h
 refine ⟨_,wrap_of_u8 (k:=.i64) (by decide) _,_,rfl,_,List.length_map _,fun _=>(Or.inl ⟨hc1,hc2,_,rfl,?_⟩)⟩
 refine wT [(2,.b 2 0),(5,vi (Int.tmod (p_n.toNat:Int) ((p_t.Nodes.length:Int)+1)))] [(2,.box [.s (mI p_t.Nodes),vi p_t.Next,vi p_t.Cookie])] Q2 J1 rfl ?_
 refine sq ?_
 refine sg ?_
 refine ⟨_,rfl,_,List.length_map _,fun _=>?_⟩
 refine wT [(2,.b 2 0),(5,vi (Int.tmod (p_n.toNat:Int) ((p_t.Nodes.length:Int)+1))),(17,vb (decide ((Int.tmod (p_n.toNat:Int) ((p_t.Nodes.length:Int)+1)) < (p_t.Nodes.length:Int))))] [(2,.box [.s (mI p_t.Nodes),vi p_t.Next,vi p_t.Cookie])] Q3 J1 rfl ?_
 refine cn 17 (decide ((Int.tmod (p_n.toNat:Int) ((p_t.Nodes.length:Int)+1)) < (p_t.Nodes.length:Int))) rfl h (fun hb h=>?_) fun hb h=>?_
 ·refine sg ?_
  obtain ⟨x1,hx1,h⟩:=bindS h
  refine ⟨_,rfl,_,idx_nat hx1,_,idx_row hx1,_,rfl,?_⟩
  refine wE [(4,vi x1.Ino)] Q1 ?_
  refine rt ?_
  cases h
  exact Fz.v
 refine sk ?_
 refine sg ?_
 refine ⟨_,rfl,?_⟩
 refine wE [(4,vi p_t.Next)] Q1 ?_
 refine rt ?_
 cases h
 exact Fz.v
theorem w_ref10N3 {p_s} {p_ino} {r} (h:ref10_Take p_s p_ino=some r):Pure Tryz.prog 65 [(.a [(.s (mI p_s.Now.Nodes)),(vi p_s.Now.Next),(vi p_s.Now.Cookie),(vi p_s.Tick),(.s (mB p_s.Since)),(.s (mA p_s.Pasts)),(.s (mU p_s.Taken)),(vi p_s.Next)]),(vi p_ino)] (.t [(.a [(.s (mI r.1.Now.Nodes)),(vi r.1.Now.Next),(vi r.1.Now.Cookie),(vi r.1.Tick),(.s (mB r.1.Since)),(.s (mA r.1.Pasts)),(.s (mU r.1.Taken)),(vi r.1.Next)]),(vi r.2.1),(vi r.2.2)]):=by
 refine po Tryz.tok 58 Tryz.func65 (by kernel_rfl) rfl rfl rfl ?_
 unfold ref10_Take at h
 refine wE [(0,.a [.s (mI p_s.Now.Nodes),vi p_s.Now.Next,vi p_s.Now.Cookie,vi p_s.Tick,.s (mB p_s.Since),.s (mA p_s.Pasts),.s (mU p_s.Taken),vi p_s.Next]),(1,vi p_ino)] Q2 ?_
 refine sg ?_
 refine wT [(1,vi p_ino),(2,.b 2 0),(4,.b 4 0)] [(2,.box [.s (mI p_s.Now.Nodes),vi p_s.Now.Next,vi p_s.Now.Cookie,vi p_s.Tick,.s (mB p_s.Since),.s (mA p_s.Pasts),.s (mU p_s.Taken),vi p_s.Next]),(4,.box [.v (.slice none 0 0),vi (0),vi (0),vi (0),.v (.slice none 0 0),.v (.slice none 0 0),.v (.slice none 0 0),vi (0)])] Q3 J2 rfl ?_
 refine sg ?_
 obtain ⟨x1,hx1,h⟩:=bindS h
 refine ⟨_,rfl,?_⟩
 refine CallOk.call (w_ref07_Get hx1) (LeL.refl _) ?_
 refine ⟨_,rfl,?_⟩
 refine wT [(1,vi p_ino),(2,.b 2 0),(4,.b 4 0),(7,.b 7 0),(8,vb x1.2)] [(2,.box [.s (mI p_s.Now.Nodes),vi p_s.Now.Next,vi p_s.Now.Cookie,vi p_s.Tick,.s (mB p_s.Since),.s (mA p_s.Pasts),.s (mU p_s.Taken),vi p_s.Next]),(4,.box [.v (.slice none 0 0),vi (0),vi (0),vi (0),.v (.slice none 0 0),.v (.slice none 0 0),.v (.slice none 0 0),vi (0)]),(7,.box [vi x1.1.Ino,vi x1.1.Kind,vi x1.1.Links,.s (mD x1.1.Data),.s (mC x1.1.Ents),vi x1.1.Up])] Q5 J3 rfl ?_
 refine sq ?_
 refine sg ?_
 refine wT [(1,vi p_ino),(2,.b 2 0),(4,.b 4 0),(7,.b 7 0),(19,vb (!x1.2))] [(2,.box [.s (mI p_s.Now.Nodes),vi p_s.Now.Next,vi p_s.Now.Cookie,vi p_s.Tick,.s (mB p_s.Since),.s (mA p_s.Pasts),.s (mU p_s.Taken),vi p_s.Next]),(4,.box [.v (.slice none 0 0),vi (0),vi (0),vi (0),.v (.slice none 0 0),.v (.slice none 0 0),.v (.slice none 0 0),vi (0)]),(7,.box [vi x1.1.Ino,vi x1.1.Kind,vi x1.1.Links,.s (mD x1.1.Data),.s (mC x1.1.Ents),vi x1.1.Up])] Q5 J3 rfl ?_
 refine cn 19 (!x1.2) rfl h (fun hb h=>?_) fun hb h=>?_
 ·refine sg ?_
  refine ⟨_,rfl,_,rfl,?_⟩
  refine wT [(4,.b 4 0),(5,vi (0)),(6,vi (70))] [(4,.box [.s (mI p_s.Now.Nodes),vi p_s.Now.Next,vi p_s.Now.Cookie,vi p_s.Tick,.s (mB p_s.Since),.s (mA p_s.Pasts),.s (mU p_s.Taken),vi p_s.Next])] Q3 J1 rfl ?_
  refine rt ?_
  cases h
  exact ⟨_,rfl,(Fz.t (.cons (Fz.imm rfl) (.cons Fz.v (.cons Fz.v .nil))))⟩
 refine sk ?_
 refine sq ?_
 refine sg ?_
 refine ⟨_,rfl,?_⟩
 refine wT [(1,vi p_ino),(2,.b 2 0),(4,.b 4 0),(23,vb (x1.1.Kind != 2))] [(2,.box [.s (mI p_s.Now.Nodes),vi p_s.Now.Next,vi p_s.Now.Cookie,vi p_s.Tick,.s (mB p_s.Since),.s (mA p_s.Pasts),.s (mU p_s.Taken),vi p_s.Next]),(4,.box [.v (.slice none 0 0),vi (0),vi (0),vi (0),.v (.slice none 0 0),.v (.slice none 0 0),.v (.slice none 0 0),vi (0)])] Q4 J2 rfl ?_
 refine cn 23 (x1.1.Kind != 2) rfl h (fun hb h=>?_) fun hb h=>?_
 ·refine sg ?_
  refine ⟨_,rfl,_,rfl,?_⟩
  refine wT [(4,.b 4 0),(5,vi (0)),(6,vi (73))] [(4,.box [.s (mI p_s.Now.Nodes),vi p_s.Now.Next,vi p_s.Now.Cookie,vi p_s.Tick,.s (mB p_s.Since),.s (mA p_s.Pasts),.s (mU p_s.Taken),vi p_s.Next])] Q3 J1 rfl ?_
  refine rt ?_
  cases h
  exact ⟨_,rfl,(Fz.t (.cons (Fz.imm rfl) (.cons Fz.v (.cons Fz.v .nil))))⟩
 refine sk ?_
 refine sq ?_
 obtain ⟨v1,hv1,h⟩:=bindS h
 refine Ok.seqw ⟨Cat.tab [(1,vi p_ino),(2,.b 2 0),(4,.b 4 0),(33,vb v1)],[(2,.box [.s (mI p_s.Now.Nodes),vi p_s.Now.Next,vi p_s.Now.Cookie,vi p_s.Tick,.s (mB p_s.Since),.s (mA p_s.Pasts),.s (mU p_s.Taken),vi p_s.Next]),(4,.box [.v (.slice none 0 0),vi (0),vi (0),vi (0),.v (.slice none 0 0),.v (.slice none 0 0),.v (.slice none 0 0),vi (0)])]⟩ ?_ ?_
 ·refine rg ?_
  refine ⟨_,rfl,_,List.length_map _,fun _=>?_⟩
  obtain ⟨c1,hg1,hv1⟩:=bindS hv1
  refine Br.itf hg1 (fun hb hg1=>?_) fun hb hg1=>?_
  ·cases hg1
   cases hv1
   exact wt Q4 J2 rfl
  refine ⟨_,rfl,?_⟩
  cases hg1
  cases hv1
  exact wt Q4 J2 rfl
 refine cn 33 (v1) rfl h (fun hb h=>?_) fun hb h=>?_
 ·refine sg ?_
  refine ⟨_,rfl,_,rfl,?_⟩
  refine wT [(4,.b 4 0),(5,vi (0)),(6,vi (76))] [(4,.box [.s (mI p_s.Now.Nodes),vi p_s.Now.Next,vi p_s.Now.Cookie,vi p_s.Tick,.s (mB p_s.Since),.s (mA p_s.Pasts),.s (mU p_s.Taken),vi p_s.Next])] Q3 J1 rfl ?_
  refine rt ?_
  cases h
  exact ⟨_,rfl,(Fz.t (.cons (Fz.imm rfl) (.cons Fz.v (.cons Fz.v .nil))))⟩
 refine sk ?_
 refine sg ?_
 obtain ⟨hc1,h⟩:=chk_some h
 refine Or.inr ⟨_,rfl,rowsLen_map (f:=c_api_Shot) (n:=3) (fun _=>rfl) p_s.Taken,app_b2 (f:=c_api_Shot) (l:=([]:List api_Shot)) (l':=p_s.Taken) hc1,_,(List.map_append (f:=c_api_Shot) (l₁:=([]:List api_Shot)) (l₂:=p_s.Taken)).symm,?_⟩
 refine wT [(1,vi p_ino),(2,.b 2 0),(4,.b 4 0),(9,.o 35)] [(2,.box [.s (mI p_s.Now.Nodes),vi p_s.Now.Next,vi p_s.Now.Cookie,vi p_s.Tick,.s (mB p_s.Since),.s (mA p_s.Pasts),.s (mU p_s.Taken),vi p_s.Next]),(4,.box [.v (.slice none 0 0),vi (0),vi (0),vi (0),.v (.slice none 0 0),.v (.slice none 0 0),.v (.slice none 0 0),vi (0)]),(35,.own 47 3 (mU (([]:List api_Shot)++p_s.Taken)))] Q4 J3 rfl ?_
 refine sg ?_
 obtain ⟨hc2,h⟩:=chk_some h
 refine ⟨_,rfl,_,rfl,Or.inl ⟨rowsLen_map (f:=c_api_Shot) (n:=3) (fun _=>rfl) ([(⟨p_s.Next,p_ino,p_s.Tick⟩:api_Shot)]),app_b2 (f:=c_api_Shot) (l:=([]:List api_Shot)++p_s.Taken) (l':=[(⟨p_s.Next,p_ino,p_s.Tick⟩:api_Shot)]) hc2,_,(List.map_append (f:=c_api_Shot) (l₁:=([]:List api_Shot)++p_s.Taken) (l₂:=[(⟨p_s.Next,p_ino,p_s.Tick⟩:api_Shot)])).symm,?_⟩⟩
 refine wT [(2,.b 2 0),(4,.b 4 0),(9,.o 35)] [(2,.box [.s (mI p_s.Now.Nodes),vi p_s.Now.Next,vi p_s.Now.Cookie,vi p_s.Tick,.s (mB p_s.Since),.s (mA p_s.Pasts),.s (mU p_s.Taken),vi p_s.Next]),(4,.box [.v (.slice none 0 0),vi (0),vi (0),vi (0),.v (.slice none 0 0),.v (.slice none 0 0),.v (.slice none 0 0),vi (0)]),(35,.own 47 3 (mU ((([]:List api_Shot)++p_s.Taken)++[(⟨p_s.Next,p_ino,p_s.Tick⟩:api_Shot)])))] Q3 J3 rfl ?_
 refine sg ?_
 refine ⟨_,rfl,?_⟩
 refine wT [(2,.b 2 0),(4,.b 4 0),(9,.o 35),(10,vi p_s.Next)] [(2,.box [.s (mI p_s.Now.Nodes),vi p_s.Now.Next,vi p_s.Now.Cookie,vi p_s.Tick,.s (mB p_s.Since),.s (mA p_s.Pasts),.s (mU p_s.Taken),vi p_s.Next]),(4,.box [.v (.slice none 0 0),vi (0),vi (0),vi (0),.v (.slice none 0 0),.v (.slice none 0 0),.v (.slice none 0 0),vi (0)]),(35,.own 47 3 (mU ((([]:List api_Shot)++p_s.Taken)++[(⟨p_s.Next,p_ino,p_s.Tick⟩:api_Shot)])))] Q4 J3 rfl ?_
 refine sg ?_
 refine ⟨_,rfl,?_⟩
 refine wT [(2,.b 2 0),(4,.b 4 0),(10,vi p_s.Next)] [(2,.box [.s (mI p_s.Now.Nodes),vi p_s.Now.Next,vi p_s.Now.Cookie,vi p_s.Tick,.s (mB p_s.Since),.s (mA p_s.Pasts),.o 35,vi p_s.Next]),(35,.own 47 3 (mU ((([]:List api_Shot)++p_s.Taken)++[(⟨p_s.Next,p_ino,p_s.Tick⟩:api_Shot)]))),(4,.box [.v (.slice none 0 0),vi (0),vi (0),vi (0),.v (.slice none 0 0),.v (.slice none 0 0),.v (.slice none 0 0),vi (0)])] Q3 J3 rfl ?_
 refine sg ?_
 obtain ⟨hc3,h⟩:=chk_some h
 refine ⟨_,rfl,(Or.inl ⟨hc3,_,rfl,?_⟩)⟩
 refine wT [(2,.b 2 0),(4,.b 4 0),(10,vi p_s.Next)] [(2,.box [.s (mI p_s.Now.Nodes),vi p_s.Now.Next,vi p_s.Now.Cookie,vi p_s.Tick,.s (mB p_s.Since),.s (mA p_s.Pasts),.o 35,vi (p_s.Next+1)]),(35,.own 47 3 (mU ((([]:List api_Shot)++p_s.Taken)++[(⟨p_s.Next,p_ino,p_s.Tick⟩:api_Shot)]))),(4,.box [.v (.slice none 0 0),vi (0),vi (0),vi (0),.v (.slice none 0 0),.v (.slice none 0 0),.v (.slice none 0 0),vi (0)])] Q3 J3 rfl ?_
 refine sg ?_
 refine ⟨_,rfl,_,rfl,?_⟩
 refine wT [(4,.b 4 0),(5,vi p_s.Next),(6,vi (0))] [(4,.box [.s (mI p_s.Now.Nodes),vi p_s.Now.Next,vi p_s.Now.Cookie,vi p_s.Tick,.s (mB p_s.Since),.s (mA p_s.Pasts),.o 35,vi (p_s.Next+1)]),(35,.own 47 3 (mU ((([]:List api_Shot)++p_s.Taken)++[(⟨p_s.Next,p_ino,p_s.Tick⟩:api_Shot)])))] Q3 J2 rfl ?_
 refine rt ?_
 cases h
 exact ⟨_,rfl,(Fz.t (.cons (Fz.a (.cons Fz.s (.cons Fz.v (.cons Fz.v (.cons Fz.v (.cons Fz.s (.cons Fz.s (.cons (Fz.o rfl) (.cons Fz.v .nil))))))))) (.cons Fz.v (.cons Fz.v .nil))))⟩
theorem w_law10N6 {p_s} {p_n} {r} (h:law10N7 p_s p_n=some r):Pure Tryz.prog 32 [(.a [(.s (mI p_s.Now.Nodes)),(vi p_s.Now.Next),(vi p_s.Now.Cookie),(vi p_s.Tick),(.s (mB p_s.Since)),(.s (mA p_s.Pasts)),(.s (mU p_s.Taken)),(vi p_s.Next)]),(vu p_n)] (vi r):=by
 refine po Tryz.tok 27 Tryz.func32 (by kernel_rfl) rfl rfl rfl ?_
 unfold law10N7 at h
 refine wE [(0,.a [.s (mI p_s.Now.Nodes),vi p_s.Now.Next,vi p_s.Now.Cookie,vi p_s.Tick,.s (mB p_s.Since),.s (mA p_s.Pasts),.s (mU p_s.Taken),vi p_s.Next]),(1,vu p_n)] Q2 ?_
 refine sg ?_
 refine wT [(1,vu p_n),(2,.b 2 0)] [(2,.box [.s (mI p_s.Now.Nodes),vi p_s.Now.Next,vi p_s.Now.Cookie,vi p_s.Tick,.s (mB p_s.Since),.s (mA p_s.Pasts),.s (mU p_s.Taken),vi p_s.Next])] Q2 J1 rfl ?_
 refine sg ?_
 obtain ⟨hc1,h⟩:=chk_some h
 obtain ⟨hc2,h⟩:=chk_some h
 refine ⟨_,wrap_of_u8 (k:=.i64) (by decide) _,_,rfl,_,List.length_map _,fun _=>(Or.inl ⟨hc1,hc2,_,rfl,?_⟩)⟩
 refine wT [(1,vu p_n),(2,.b 2 0),(5,vi (Int.tmod (p_n.toNat:Int) ((p_s.Taken.length:Int)+1)))] [(2,.box [.s (mI p_s.Now.Nodes),vi p_s.Now.Next,vi p_s.Now.Cookie,vi p_s.Tick,.s (mB p_s.Since),.s (mA p_s.Pasts),.s (mU p_s.Taken),vi p_s.Next])] Q3 J1 rfl ?_
 refine sq ?_
 refine sg ?_
 refine ⟨_,rfl,_,List.length_map _,fun _=>?_⟩
 refine wT [(1,vu p_n),(2,.b 2 0),(5,vi (Int.tmod (p_n.toNat:Int) ((p_s.Taken.length:Int)+1))),(17,vb (decide ((Int.tmod (p_n.toNat:Int) ((p_s.Taken.length:Int)+1)) < (p_s.Taken.length:Int))))] [(2,.box [.s (mI p_s.Now.Nodes),vi p_s.Now.Next,vi p_s.Now.Cookie,vi p_s.Tick,.s (mB p_s.Since),.s (mA p_s.Pasts),.s (mU p_s.Taken),vi p_s.Next])] Q4 J1 rfl ?_
 refine cn 17 (decide ((Int.tmod (p_n.toNat:Int) ((p_s.Taken.length:Int)+1)) < (p_s.Taken.length:Int))) rfl h (fun hb h=>?_) fun hb h=>?_
 ·refine sg ?_
  obtain ⟨x1,hx1,h⟩:=bindS h
  refine ⟨_,rfl,_,idx_nat hx1,_,idx_row hx1,_,rfl,?_⟩
  refine wE [(4,vi x1.Id)] Q1 ?_
  refine rt ?_
  cases h
  exact Fz.v
 refine sk ?_
 refine sg ?_
 refine ⟨_,wrap_of_u8 (k:=.i64) (by decide) _,(by decide),_,rfl,?_⟩
 refine wE [(4,vi (quoK .i64 (p_n.toNat:Int) (8)))] Q1 ?_
 refine rt ?_
 cases h
 exact Fz.v
theorem w_ref10N4 {p_l} {p_from} {p_till} {r} (h:ref10N20 p_l p_from p_till=some r):Pure Tryz.prog 99 [(.s (mU p_l)),(vi p_from),(vi p_till)] (vb r):=by
 refine po Tryz.tok 30 Tryz.func99 (by kernel_rfl) rfl rfl rfl ?_
 unfold ref10N20 at h
 refine wE [(0,.s (mU p_l)),(1,vi p_from),(2,vi p_till)] Q3 ?_
 refine sg ?_
 refine wE [(0,.s (mU p_l)),(1,vi p_from),(2,vi p_till)] Q3 ?_
 refine Ok.seqj (fun v1=>⟨Cat.tab [],[]⟩) (fun v1=>ref10N22 v1=some r) ?_ ?_
 ·refine sg ?_
  refine wE [(0,.s (mU p_l)),(1,vi p_from),(2,vi p_till),(7,vi (0))] Q4 ?_
  refine bl ?_
  refine Ok.loop (fun (s1:Int)=>⟨Cat.tab [(0,.s (mU p_l)),(1,vi p_from),(2,vi p_till),(7,vi s1)],[]⟩) (ref10N21 p_l p_from p_till) (s0:=0) h (wt Q4 Q0 rfl) ?_
  intro s1 y1 hB1 hy1
  unfold ref10N21 at hB1
  refine sq ?_
  refine sg ?_
  refine ⟨_,List.length_map _,fun _=>?_⟩
  refine wE [(0,.s (mU p_l)),(1,vi p_from),(2,vi p_till),(7,vi s1),(11,vb (decide (s1 < (p_l.length:Int))))] Q5 ?_
  refine cn 11 (decide (s1 < (p_l.length:Int))) rfl hB1 (fun hb hB1=>?_) fun hb hB1=>?_
  ·refine sk ?_
   refine sq ?_
   refine bl ?_
   obtain ⟨v2,hv2,hB1⟩:=bindS hB1
   refine Ok.seqw ⟨Cat.tab [(0,.s (mU p_l)),(1,vi p_from),(2,vi p_till),(7,vi s1),(29,vb v2)],[]⟩ ?_ ?_
   ·refine rg ?_
    obtain ⟨x1,hx1,hv2⟩:=bindS hv2
    refine ⟨_,idx_nat hx1,_,idx_row hx1,_,rfl,?_⟩
    obtain ⟨c1,hg1,hv2⟩:=bindS hv2
    refine Br.ite hg1 (fun hb hg1=>?_) fun hb hg1=>?_
    ·obtain ⟨x2,hx2,hg1⟩:=bindS hg1
     refine ⟨_,idx_nat hx2,_,idx_row hx2,_,rfl,?_⟩
     cases hg1
     cases hv2
     exact wt Q5 Q0 rfl
    cases hg1
    cases hv2
    exact wt Q5 Q0 rfl
   refine cn 29 (v2) rfl hB1 (fun hb hB1=>?_) fun hb hB1=>?_
   ·refine sg ?_
    refine wE [(6,vb true)] Q1 ?_
    refine rt ?_
    have hB1:=out_ret hB1 hy1
    cases hB1
    exact Fz.v
   refine sk ?_
   refine rg ?_
   obtain ⟨hc1,hB1⟩:=chk_some hB1
   refine (Or.inl ⟨hc1,?_⟩)
   exact ⟨_,sj hB1,wt Q4 Q0 rfl⟩
  refine xt ?_
  have hB1:=out_ret hB1 hy1
  exact ⟨_,hB1,wt Q0 Q0 rfl⟩
 intro v1 h
 unfold ref10N22 at h
 refine sg ?_
 refine wE [(6,vb false)] Q1 ?_
 refine rt ?_
 cases h
 exact Fz.v
set_option maxHeartbeats 4000000 in
theorem w_ref10N1 {p_s} {p_id} {r} (h:ref10_Drop p_s p_id=some r):Pure Tryz.prog 66 [(.a [(.s (mI p_s.Now.Nodes)),(vi p_s.Now.Next),(vi p_s.Now.Cookie),(vi p_s.Tick),(.s (mB p_s.Since)),(.s (mA p_s.Pasts)),(.s (mU p_s.Taken)),(vi p_s.Next)]),(vi p_id)] (.t [(.a [(.s (mI r.1.Now.Nodes)),(vi r.1.Now.Next),(vi r.1.Now.Cookie),(vi r.1.Tick),(.s (mB r.1.Since)),(.s (mA r.1.Pasts)),(.s (mU r.1.Taken)),(vi r.1.Next)]),(vi r.2)]):=by
 refine po Tryz.tok 76 Tryz.func66 (by kernel_rfl) rfl rfl rfl ?_
 unfold ref10_Drop at h
 refine wE [(0,.a [.s (mI p_s.Now.Nodes),vi p_s.Now.Next,vi p_s.Now.Cookie,vi p_s.Tick,.s (mB p_s.Since),.s (mA p_s.Pasts),.s (mU p_s.Taken),vi p_s.Next]),(1,vi p_id)] Q2 ?_
 refine sg ?_
 refine wT [(1,vi p_id),(2,.b 2 0),(4,.b 4 0)] [(2,.box [.s (mI p_s.Now.Nodes),vi p_s.Now.Next,vi p_s.Now.Cookie,vi p_s.Tick,.s (mB p_s.Since),.s (mA p_s.Pasts),.s (mU p_s.Taken),vi p_s.Next]),(4,.box [.v (.slice none 0 0),vi (0),vi (0),vi (0),.v (.slice none 0 0),.v (.slice none 0 0),.v (.slice none 0 0),vi (0)])] Q3 J2 rfl ?_
 refine sg ?_
 refine Or.inr ?_
 refine wT [(1,vi p_id),(2,.b 2 0),(4,.b 4 0),(6,.o 10)] [(2,.box [.s (mI p_s.Now.Nodes),vi p_s.Now.Next,vi p_s.Now.Cookie,vi p_s.Tick,.s (mB p_s.Since),.s (mA p_s.Pasts),.s (mU p_s.Taken),vi p_s.Next]),(4,.box [.v (.slice none 0 0),vi (0),vi (0),vi (0),.v (.slice none 0 0),.v (.slice none 0 0),.v (.slice none 0 0),vi (0)]),(10,.own 47 3 (mU ([]:List api_Shot)))] Q4 J3 rfl ?_
 obtain ⟨v1,hv1,h⟩:=bindS h
 refine Ok.seqw ⟨Cat.tab [(2,.b 2 0),(4,.b 4 0),(6,.o 10)],[(2,.box [.s (mI p_s.Now.Nodes),vi p_s.Now.Next,vi p_s.Now.Cookie,vi p_s.Tick,.s (mB p_s.Since),.s (mA p_s.Pasts),.s (mU p_s.Taken),vi p_s.Next]),(4,.box [.v (.slice none 0 0),vi (0),vi (0),vi (0),.v (.slice none 0 0),.v (.slice none 0 0),.v (.slice none 0 0),vi (0)]),(10,.own 47 3 (mU v1))]⟩ ?_ ?_
 ·refine sg ?_
  refine wT [(1,vi p_id),(2,.b 2 0),(4,.b 4 0),(6,.o 10),(7,vi (0))] [(2,.box [.s (mI p_s.Now.Nodes),vi p_s.Now.Next,vi p_s.Now.Cookie,vi p_s.Tick,.s (mB p_s.Since),.s (mA p_s.Pasts),.s (mU p_s.Taken),vi p_s.Next]),(4,.box [.v (.slice none 0 0),vi (0),vi (0),vi (0),.v (.slice none 0 0),.v (.slice none 0 0),.v (.slice none 0 0),vi (0)]),(10,.own 47 3 (mU ([]:List api_Shot)))] Q5 J3 rfl ?_
  refine bl ?_
  refine Ok.loop (fun (s1:Int×(List api_Shot))=>⟨Cat.tab [(1,vi p_id),(2,.b 2 0),(4,.b 4 0),(6,.o 10),(7,vi s1.1)],[(2,.box [.s (mI p_s.Now.Nodes),vi p_s.Now.Next,vi p_s.Now.Cookie,vi p_s.Tick,.s (mB p_s.Since),.s (mA p_s.Pasts),.s (mU p_s.Taken),vi p_s.Next]),(4,.box [.v (.slice none 0 0),vi (0),vi (0),vi (0),.v (.slice none 0 0),.v (.slice none 0 0),.v (.slice none 0 0),vi (0)]),(10,.own 47 3 (mU s1.2))]⟩) (ref10N1 p_s p_id) (s0:=(0,([]:List api_Shot))) hv1 (wt Q5 ⟨⟨_,rfl,.refl _⟩,⟨_,rfl,.refl _⟩,⟨_,rfl,.refl _⟩,Q0⟩ rfl) ?_
  intro s1 y1 hB1 hy1
  unfold ref10N1 at hB1
  refine sq ?_
  refine sg ?_
  refine ⟨_,rfl,_,List.length_map _,fun _=>?_⟩
  refine wT [(1,vi p_id),(2,.b 2 0),(4,.b 4 0),(6,.o 10),(7,vi s1.1),(15,vb (decide (s1.1 < (p_s.Taken.length:Int))))] [(2,.box [.s (mI p_s.Now.Nodes),vi p_s.Now.Next,vi p_s.Now.Cookie,vi p_s.Tick,.s (mB p_s.Since),.s (mA p_s.Pasts),.s (mU p_s.Taken),vi p_s.Next]),(4,.box [.v (.slice none 0 0),vi (0),vi (0),vi (0),.v (.slice none 0 0),.v (.slice none 0 0),.v (.slice none 0 0),vi (0)]),(10,.own 47 3 (mU s1.2))] Q6 J3 rfl ?_
  refine cn 15 (decide (s1.1 < (p_s.Taken.length:Int))) rfl hB1 (fun hb hB1=>?_) fun hb hB1=>?_
  ·refine sk ?_
   obtain ⟨v2,hv2,hB1⟩:=bindS hB1
   refine Ok.seqw ⟨Cat.tab [(1,vi p_id),(2,.b 2 0),(4,.b 4 0),(6,.o 10),(7,vi s1.1)],[(2,.box [.s (mI p_s.Now.Nodes),vi p_s.Now.Next,vi p_s.Now.Cookie,vi p_s.Tick,.s (mB p_s.Since),.s (mA p_s.Pasts),.s (mU p_s.Taken),vi p_s.Next]),(4,.box [.v (.slice none 0 0),vi (0),vi (0),vi (0),.v (.slice none 0 0),.v (.slice none 0 0),.v (.slice none 0 0),vi (0)]),(10,.own 47 3 (mU v2))]⟩ ?_ ?_
   ·refine bl ?_
    refine sg ?_
    obtain ⟨x1,hx1,hv2⟩:=bindS hv2
    refine ⟨_,rfl,_,idx_nat hx1,_,idx_row hx1,_,rfl,?_⟩
    refine wT [(1,vi p_id),(2,.b 2 0),(4,.b 4 0),(6,.o 10),(7,vi s1.1),(25,vb (x1.Id != p_id))] [(2,.box [.s (mI p_s.Now.Nodes),vi p_s.Now.Next,vi p_s.Now.Cookie,vi p_s.Tick,.s (mB p_s.Since),.s (mA p_s.Pasts),.s (mU p_s.Taken),vi p_s.Next]),(4,.box [.v (.slice none 0 0),vi (0),vi (0),vi (0),.v (.slice none 0 0),.v (.slice none 0 0),.v (.slice none 0 0),vi (0)]),(10,.own 47 3 (mU s1.2))] Q6 J3 rfl ?_
    refine cn 25 (x1.Id != p_id) rfl hv2 (fun hb hv2=>?_) fun hb hv2=>?_
    ·refine rg ?_
     obtain ⟨x2,hx2,hv2⟩:=bindS hv2
     obtain ⟨hc1,hv2⟩:=chk_some hv2
     refine ⟨_,rfl,_,idx_nat hx2,_,idx_row hx2,_,rfl,Or.inl ⟨rowsLen_map (f:=c_api_Shot) (n:=3) (fun _=>rfl) ([x2]),app_b2 (f:=c_api_Shot) (l:=s1.2) (l':=[x2]) hc1,_,(List.map_append (f:=c_api_Shot) (l₁:=s1.2) (l₂:=[x2])).symm,?_⟩⟩
     cases hv2
     exact wt Q5 J3 rfl
    refine sk ?_
    cases hv2
    exact wt Q5 J3 rfl
   refine rg ?_
   obtain ⟨hc2,hB1⟩:=chk_some hB1
   refine (Or.inl ⟨hc2,?_⟩)
   exact ⟨_,sj hB1,wt Q5 J3 rfl⟩
  refine xt ?_
  have hB1:=out_ret hB1 hy1
  cases hB1
  exact wt Q3 J3 rfl
 refine sq ?_
 refine sg ?_
 refine ⟨_,List.length_map _,fun _=>⟨_,rfl,_,List.length_map _,fun _=>?_⟩⟩
 refine wT [(2,.b 2 0),(4,.b 4 0),(6,.o 10),(39,vb ((v1.length:Int) == (p_s.Taken.length:Int)))] [(2,.box [.s (mI p_s.Now.Nodes),vi p_s.Now.Next,vi p_s.Now.Cookie,vi p_s.Tick,.s (mB p_s.Since),.s (mA p_s.Pasts),.s (mU p_s.Taken),vi p_s.Next]),(4,.box [.v (.slice none 0 0),vi (0),vi (0),vi (0),.v (.slice none 0 0),.v (.slice none 0 0),.v (.slice none 0 0),vi (0)]),(10,.own 47 3 (mU v1))] Q4 J3 rfl ?_
 refine cn 39 ((v1.length:Int) == (p_s.Taken.length:Int)) rfl h (fun hb h=>?_) fun hb h=>?_
 ·refine sg ?_
  refine ⟨_,rfl,_,rfl,?_⟩
  refine wT [(4,.b 4 0),(5,vi (100))] [(4,.box [.s (mI p_s.Now.Nodes),vi p_s.Now.Next,vi p_s.Now.Cookie,vi p_s.Tick,.s (mB p_s.Since),.s (mA p_s.Pasts),.s (mU p_s.Taken),vi p_s.Next])] Q2 J1 rfl ?_
  refine rt ?_
  cases h
  exact ⟨_,rfl,(Fz.t (.cons (Fz.imm rfl) (.cons Fz.v .nil)))⟩
 refine sk ?_
 refine sg ?_
 refine Or.inr ?_
 refine wT [(2,.b 2 0),(4,.b 4 0),(6,.o 10),(8,.o 41)] [(2,.box [.s (mI p_s.Now.Nodes),vi p_s.Now.Next,vi p_s.Now.Cookie,vi p_s.Tick,.s (mB p_s.Since),.s (mA p_s.Pasts),.s (mU p_s.Taken),vi p_s.Next]),(4,.box [.v (.slice none 0 0),vi (0),vi (0),vi (0),.v (.slice none 0 0),.v (.slice none 0 0),.v (.slice none 0 0),vi (0)]),(10,.own 47 3 (mU v1)),(41,.own 75 8 (mA ([]:List api_Past)))] Q4 J4 rfl ?_
 obtain ⟨v3,hv3,h⟩:=bindS h
 refine Ok.seqw ⟨Cat.tab [(2,.b 2 0),(4,.b 4 0),(6,.o 10),(8,.o 41)],[(2,.box [.s (mI p_s.Now.Nodes),vi p_s.Now.Next,vi p_s.Now.Cookie,vi p_s.Tick,.s (mB p_s.Since),.s (mA p_s.Pasts),.s (mU p_s.Taken),vi p_s.Next]),(4,.box [.v (.slice none 0 0),vi (0),vi (0),vi (0),.v (.slice none 0 0),.v (.slice none 0 0),.v (.slice none 0 0),vi (0)]),(10,.own 47 3 (mU v1)),(41,.own 75 8 (mA v3))]⟩ ?_ ?_
 ·refine sg ?_
  refine wT [(2,.b 2 0),(4,.b 4 0),(6,.o 10),(8,.o 41),(9,vi (0))] [(2,.box [.s (mI p_s.Now.Nodes),vi p_s.Now.Next,vi p_s.Now.Cookie,vi p_s.Tick,.s (mB p_s.Since),.s (mA p_s.Pasts),.s (mU p_s.Taken),vi p_s.Next]),(4,.box [.v (.slice none 0 0),vi (0),vi (0),vi (0),.v (.slice none 0 0),.v (.slice none 0 0),.v (.slice none 0 0),vi (0)]),(10,.own 47 3 (mU v1)),(41,.own 75 8 (mA ([]:List api_Past)))] Q5 J4 rfl ?_
  refine bl ?_
  refine Ok.loop (fun (s2:Int×(List api_Past))=>⟨Cat.tab [(2,.b 2 0),(4,.b 4 0),(6,.o 10),(8,.o 41),(9,vi s2.1)],[(2,.box [.s (mI p_s.Now.Nodes),vi p_s.Now.Next,vi p_s.Now.Cookie,vi p_s.Tick,.s (mB p_s.Since),.s (mA p_s.Pasts),.s (mU p_s.Taken),vi p_s.Next]),(4,.box [.v (.slice none 0 0),vi (0),vi (0),vi (0),.v (.slice none 0 0),.v (.slice none 0 0),.v (.slice none 0 0),vi (0)]),(10,.own 47 3 (mU v1)),(41,.own 75 8 (mA s2.2))]⟩) (ref10N2 p_s v1) (s0:=(0,([]:List api_Past))) hv3 (wt Q5 ⟨⟨_,rfl,.refl _⟩,⟨_,rfl,.refl _⟩,⟨_,rfl,.refl _⟩,⟨_,rfl,.refl _⟩,Q0⟩ rfl) ?_
  intro s2 y2 hB2 hy2
  unfold ref10N2 at hB2
  refine sq ?_
  refine sg ?_
  refine ⟨_,rfl,_,List.length_map _,fun _=>?_⟩
  refine wT [(2,.b 2 0),(4,.b 4 0),(6,.o 10),(8,.o 41),(9,vi s2.1),(46,vb (decide (s2.1 < (p_s.Pasts.length:Int))))] [(2,.box [.s (mI p_s.Now.Nodes),vi p_s.Now.Next,vi p_s.Now.Cookie,vi p_s.Tick,.s (mB p_s.Since),.s (mA p_s.Pasts),.s (mU p_s.Taken),vi p_s.Next]),(4,.box [.v (.slice none 0 0),vi (0),vi (0),vi (0),.v (.slice none 0 0),.v (.slice none 0 0),.v (.slice none 0 0),vi (0)]),(10,.own 47 3 (mU v1)),(41,.own 75 8 (mA s2.2))] Q6 J4 rfl ?_
  refine cn 46 (decide (s2.1 < (p_s.Pasts.length:Int))) rfl hB2 (fun hb hB2=>?_) fun hb hB2=>?_
  ·refine sk ?_
   obtain ⟨v4,hv4,hB2⟩:=bindS hB2
   refine Ok.seqw ⟨Cat.tab [(2,.b 2 0),(4,.b 4 0),(6,.o 10),(8,.o 41),(9,vi s2.1)],[(2,.box [.s (mI p_s.Now.Nodes),vi p_s.Now.Next,vi p_s.Now.Cookie,vi p_s.Tick,.s (mB p_s.Since),.s (mA p_s.Pasts),.s (mU p_s.Taken),vi p_s.Next]),(4,.box [.v (.slice none 0 0),vi (0),vi (0),vi (0),.v (.slice none 0 0),.v (.slice none 0 0),.v (.slice none 0 0),vi (0)]),(10,.own 47 3 (mU v1)),(41,.own 75 8 (mA v4))]⟩ ?_ ?_
   ·refine bl ?_
    refine sq ?_
    refine Ok.draw (m:=14) (MD:=⟨[]⟩) (CH:=⟨[]⟩) Tryz.tok Tryz.mixed (by kernel_rfl) ?_
    obtain ⟨x3,hx3,hv4⟩:=bindS hv4
    obtain ⟨x4,hx4,hv4⟩:=bindS hv4
    obtain ⟨x5,hx5,hv4⟩:=bindS hv4
    refine ⟨_,rfl,_,rfl,_,⟨_,rfl,rfl⟩,_,rfl,_,⟨_,idx_nat hx3,_,idx_row hx3,rfl⟩,_,rfl,_,⟨_,rfl,rfl⟩,_,rfl,_,⟨_,rfl,rfl⟩,_,rfl,_,⟨_,idx_nat hx4,_,idx_row hx4,rfl⟩,_,rfl,_,⟨_,rfl,rfl⟩,_,⟨_,.borrow (w_ref10N4 hx5) (.cons (Fz.o rfl) (.cons Fz.v (.cons Fz.v (.nil)))) rfl,rfl⟩,Q0,?_⟩
    refine wT [(2,.b 2 0),(4,.b 4 0),(6,.o 10),(8,.o 41),(9,vi s2.1),(62,vb x5)] [(2,.box [.s (mI p_s.Now.Nodes),vi p_s.Now.Next,vi p_s.Now.Cookie,vi p_s.Tick,.s (mB p_s.Since),.s (mA p_s.Pasts),.s (mU p_s.Taken),vi p_s.Next]),(4,.box [.v (.slice none 0 0),vi (0),vi (0),vi (0),.v (.slice none 0 0),.v (.slice none 0 0),.v (.slice none 0 0),vi (0)]),(10,.own 47 3 (mU v1)),(41,.own 75 8 (mA s2.2))] Q6 J4 rfl ?_
    refine cn 62 (x5) rfl hv4 (fun hb hv4=>?_) fun hb hv4=>?_
    ·refine rg ?_
     obtain ⟨x6,hx6,hv4⟩:=bindS hv4
     obtain ⟨hc3,hv4⟩:=chk_some hv4
     refine ⟨_,rfl,_,idx_nat hx6,_,idx_row hx6,_,rfl,Or.inl ⟨rowsLen_map (f:=c_api_Past) (n:=8) (fun _=>rfl) ([x6]),app_b2 (f:=c_api_Past) (l:=s2.2) (l':=[x6]) hc3,_,(List.map_append (f:=c_api_Past) (l₁:=s2.2) (l₂:=[x6])).symm,?_⟩⟩
     cases hv4
     exact wt Q5 J4 rfl
    refine sk ?_
    cases hv4
    exact wt Q5 J4 rfl
   refine rg ?_
   obtain ⟨hc4,hB2⟩:=chk_some hB2
   refine (Or.inl ⟨hc4,?_⟩)
   exact ⟨_,sj hB2,wt Q5 J4 rfl⟩
  refine xt ?_
  have hB2:=out_ret hB2 hy2
  cases hB2
  exact wt Q4 J4 rfl
 refine sg ?_
 refine ⟨_,rfl,?_⟩
 refine wT [(2,.b 2 0),(4,.b 4 0),(8,.o 41)] [(2,.box [.s (mI p_s.Now.Nodes),vi p_s.Now.Next,vi p_s.Now.Cookie,vi p_s.Tick,.s (mB p_s.Since),.s (mA p_s.Pasts),.o 10,vi p_s.Next]),(10,.own 47 3 (mU v1)),(4,.box [.v (.slice none 0 0),vi (0),vi (0),vi (0),.v (.slice none 0 0),.v (.slice none 0 0),.v (.slice none 0 0),vi (0)]),(41,.own 75 8 (mA v3))] Q3 J4 rfl ?_
 refine sg ?_
 refine ⟨_,rfl,?_⟩
 refine wT [(2,.b 2 0),(4,.b 4 0)] [(2,.box [.s (mI p_s.Now.Nodes),vi p_s.Now.Next,vi p_s.Now.Cookie,vi p_s.Tick,.s (mB p_s.Since),.o 41,.o 10,vi p_s.Next]),(41,.own 75 8 (mA v3)),(10,.own 47 3 (mU v1)),(4,.box [.v (.slice none 0 0),vi (0),vi (0),vi (0),.v (.slice none 0 0),.v (.slice none 0 0),.v (.slice none 0 0),vi (0)])] Q2 J4 rfl ?_
 refine sg ?_
 refine ⟨_,rfl,_,rfl,?_⟩
 refine wT [(4,.b 4 0),(5,vi (0))] [(4,.box [.s (mI p_s.Now.Nodes),vi p_s.Now.Next,vi p_s.Now.Cookie,vi p_s.Tick,.s (mB p_s.Since),.o 41,.o 10,vi p_s.Next]),(41,.own 75 8 (mA v3)),(10,.own 47 3 (mU v1))] Q2 J3 rfl ?_
 refine rt ?_
 cases h
 exact ⟨_,rfl,(Fz.t (.cons (Fz.a (.cons Fz.s (.cons Fz.v (.cons Fz.v (.cons Fz.v (.cons Fz.s (.cons (Fz.o rfl) (.cons (Fz.o rfl) (.cons Fz.v .nil))))))))) (.cons Fz.v .nil)))⟩
theorem w_law07N2 {p_n} {r} (h:law07_Name p_n=some r):Pure Tryz.prog 52 [(vu p_n)] (vs r):=by
 refine po Tryz.tok 11 Tryz.func52 (by kernel_rfl) rfl rfl rfl ?_
 unfold law07_Name at h
 refine wE [(0,vu p_n)] Q1 ?_
 refine sg ?_
 refine wE [(0,vu p_n)] Q1 ?_
 refine sg ?_
 refine Or.inl ?_
 refine wE [(0,vu p_n),(3,.s (List.map cStr ([[97],[98],[99],[100],[101],[46,46]])))] Q2 ?_
 refine sg ?_
 obtain ⟨x1,hx1,h⟩:=bindS h
 refine ⟨_,wrap_of_u8 (k:=.i64) (by decide) _,(by decide),_,rfl,_,idx_nat hx1,_,idx_row hx1,_,rfl,?_⟩
 refine wE [(2,vs x1)] Q1 ?_
 refine rt ?_
 cases h
 exact Fz.v
theorem w_ref07_Ln {p_t} {p_ino} {p_to} {p_name} {r} (h:ref07_Ln p_t p_ino p_to p_name=some r):Pure Tryz.prog 53 [(.a [(.s (mI p_t.Nodes)),(vi p_t.Next),(vi p_t.Cookie)]),(vi p_ino),(vi p_to),(vs p_name)] (.t [(.a [(.s (mI r.1.Nodes)),(vi r.1.Next),(vi r.1.Cookie)]),(vi r.2)]):=by
 refine po Tryz.tok 55 Tryz.func53 (by kernel_rfl) rfl rfl rfl ?_
 unfold ref07_Ln at h
 refine wE [(0,.a [.s (mI p_t.Nodes),vi p_t.Next,vi p_t.Cookie]),(1,vi p_ino),(2,vi p_to),(3,vs p_name)] Q4 ?_
 refine sg ?_
 refine wT [(1,vi p_ino),(2,vi p_to),(3,vs p_name),(4,.b 4 0),(8,.b 8 0)] [(4,.box [.s (mI p_t.Nodes),vi p_t.Next,vi p_t.Cookie]),(8,.box [.v (.slice none 0 0),vi (0),vi (0)])] Q5 J2 rfl ?_
 refine sg ?_
 obtain ⟨x1,hx1,h⟩:=bindS h
 refine ⟨_,rfl,?_⟩
 refine CallOk.call (w_ref07_Get hx1) (LeL.refl _) ?_
 refine ⟨_,rfl,?_⟩
 refine wT [(1,vi p_ino),(2,vi p_to),(3,vs p_name),(4,.b 4 0),(8,.b 8 0),(10,.b 10 0),(11,vb x1.2)] [(4,.box [.s (mI p_t.Nodes),vi p_t.Next,vi p_t.Cookie]),(8,.box [.v (.slice none 0 0),vi (0),vi (0)]),(10,.box [vi x1.1.Ino,vi x1.1.Kind,vi x1.1.Links,.s (mD x1.1.Data),.s (mC x1.1.Ents),vi x1.1.Up])] Q7 J3 rfl ?_
 refine sq ?_
 obtain ⟨v1,hv1,h⟩:=bindS h
 refine Ok.seqw ⟨Cat.tab [(1,vi p_ino),(2,vi p_to),(3,vs p_name),(4,.b 4 0),(8,.b 8 0),(10,.b 10 0),(30,vb v1)],[(4,.box [.s (mI p_t.Nodes),vi p_t.Next,vi p_t.Cookie]),(8,.box [.v (.slice none 0 0),vi (0),vi (0)]),(10,.box [vi x1.1.Ino,vi x1.1.Kind,vi x1.1.Links,.s (mD x1.1.Data),.s (mC x1.1.Ents),vi x1.1.Up])]⟩ ?_ ?_
 ·refine rg ?_
  obtain ⟨c2,hg1,hv1⟩:=bindS hv1
  refine Br.itf hg1 (fun hb hg1=>?_) fun hb hg1=>?_
  ·cases hg1
   cases hv1
   exact wt Q7 J3 rfl
  refine ⟨_,rfl,?_⟩
  obtain ⟨c1,hg2,hg1⟩:=bindS hg1
  refine Br.ite hg2 (fun hb hg2=>?_) fun hb hg2=>?_
  ·refine ⟨_,rfl,?_⟩
   cases hg2
   cases hg1
   cases hv1
   exact wt Q7 J3 rfl
  cases hg2
  cases hg1
  cases hv1
  exact wt Q7 J3 rfl
 refine cn 30 (v1) rfl h (fun hb h=>?_) fun hb h=>?_
 ·refine sg ?_
  refine ⟨_,rfl,_,rfl,?_⟩
  refine wT [(8,.b 8 0),(9,vi (70))] [(8,.box [.s (mI p_t.Nodes),vi p_t.Next,vi p_t.Cookie])] Q2 J1 rfl ?_
  refine rt ?_
  cases h
  exact ⟨_,rfl,(Fz.t (.cons (Fz.imm rfl) (.cons Fz.v .nil)))⟩
 refine sk ?_
 refine sq ?_
 refine sg ?_
 refine ⟨_,rfl,?_⟩
 refine wT [(1,vi p_ino),(2,vi p_to),(3,vs p_name),(4,.b 4 0),(8,.b 8 0),(10,.b 10 0),(34,vb (x1.1.Kind == 2))] [(4,.box [.s (mI p_t.Nodes),vi p_t.Next,vi p_t.Cookie]),(8,.box [.v (.slice none 0 0),vi (0),vi (0)]),(10,.box [vi x1.1.Ino,vi x1.1.Kind,vi x1.1.Links,.s (mD x1.1.Data),.s (mC x1.1.Ents),vi x1.1.Up])] Q7 J3 rfl ?_
 refine cn 34 (x1.1.Kind == 2) rfl h (fun hb h=>?_) fun hb h=>?_
 ·refine sg ?_
  refine ⟨_,rfl,_,rfl,?_⟩
  refine wT [(8,.b 8 0),(9,vi (72))] [(8,.box [.s (mI p_t.Nodes),vi p_t.Next,vi p_t.Cookie])] Q2 J1 rfl ?_
  refine rt ?_
  cases h
  exact ⟨_,rfl,(Fz.t (.cons (Fz.imm rfl) (.cons Fz.v .nil)))⟩
 refine sk ?_
 refine sg ?_
 obtain ⟨x2,hx2,h⟩:=bindS h
 refine ⟨_,rfl,?_⟩
 refine CallOk.call (w_ref07N10 hx2) (LeL.refl _) ?_
 refine wT [(1,vi p_ino),(2,vi p_to),(3,vs p_name),(4,.b 4 0),(8,.b 8 0),(10,.b 10 0),(12,vi x2)] [(4,.box [.s (mI p_t.Nodes),vi p_t.Next,vi p_t.Cookie]),(8,.box [.v (.slice none 0 0),vi (0),vi (0)]),(10,.box [vi x1.1.Ino,vi x1.1.Kind,vi x1.1.Links,.s (mD x1.1.Data),.s (mC x1.1.Ents),vi x1.1.Up])] Q7 J3 rfl ?_
 refine sq ?_
 refine sg ?_
 refine wT [(1,vi p_ino),(2,vi p_to),(3,vs p_name),(4,.b 4 0),(8,.b 8 0),(10,.b 10 0),(12,vi x2),(41,vb (x2 != 0))] [(4,.box [.s (mI p_t.Nodes),vi p_t.Next,vi p_t.Cookie]),(8,.box [.v (.slice none 0 0),vi (0),vi (0)]),(10,.box [vi x1.1.Ino,vi x1.1.Kind,vi x1.1.Links,.s (mD x1.1.Data),.s (mC x1.1.Ents),vi x1.1.Up])] Q8 J3 rfl ?_
 refine cn 41 (x2 != 0) rfl h (fun hb h=>?_) fun hb h=>?_
 ·refine sg ?_
  refine ⟨_,rfl,_,rfl,?_⟩
  refine wT [(8,.b 8 0),(9,vi x2)] [(8,.box [.s (mI p_t.Nodes),vi p_t.Next,vi p_t.Cookie])] Q2 J1 rfl ?_
  refine rt ?_
  cases h
  exact ⟨_,rfl,(Fz.t (.cons (Fz.imm rfl) (.cons Fz.v .nil)))⟩
 refine sk ?_
 refine sg ?_
 obtain ⟨hc1,h⟩:=chk_some h
 refine ⟨_,rfl,(Or.inl ⟨hc1,_,rfl,?_⟩)⟩
 refine wT [(1,vi p_ino),(2,vi p_to),(3,vs p_name),(4,.b 4 0),(8,.b 8 0),(10,.b 10 0)] [(4,.box [.s (mI p_t.Nodes),vi p_t.Next,vi p_t.Cookie]),(8,.box [.v (.slice none 0 0),vi (0),vi (0)]),(10,.box [vi x1.1.Ino,vi x1.1.Kind,vi (x1.1.Links+1),.s (mD x1.1.Data),.s (mC x1.1.Ents),vi x1.1.Up])] Q6 J3 rfl ?_
 refine sg ?_
 obtain ⟨x3,hx3,h⟩:=bindS h
 refine ⟨_,rfl,_,rfl,?_⟩
 refine CallOk.call (w_ref07N18 hx3) (LeL.refl _) ?_
 obtain ⟨x4,hx4,h⟩:=bindS h
 refine CallOk.call (w_ref07N11 hx4) (LeL.refl _) ?_
 refine ⟨_,rfl,?_⟩
 refine wT [(8,.b 8 0),(9,vi (0))] [(8,.box [.s (mI x4.Nodes),vi x4.Next,vi x4.Cookie])] Q2 J1 rfl ?_
 refine rt ?_
 cases h
 exact ⟨_,rfl,(Fz.t (.cons (Fz.imm rfl) (.cons Fz.v .nil)))⟩
theorem w_ref07N3 {p_t} {p_ino} {p_name} {r} (h:ref07_Look p_t p_ino p_name=some r):Pure Tryz.prog 85 [(.a [(.s (mI p_t.Nodes)),(vi p_t.Next),(vi p_t.Cookie)]),(vi p_ino),(vs p_name)] (.t [(vi r.1),(vi r.2)]):=by
 refine po Tryz.tok 34 Tryz.func85 (by kernel_rfl) rfl rfl rfl ?_
 unfold ref07_Look at h
 refine wE [(0,.a [.s (mI p_t.Nodes),vi p_t.Next,vi p_t.Cookie]),(1,vi p_ino),(2,vs p_name)] Q3 ?_
 refine sg ?_
 refine wT [(1,vi p_ino),(2,vs p_name),(3,.b 3 0)] [(3,.box [.s (mI p_t.Nodes),vi p_t.Next,vi p_t.Cookie])] Q3 J1 rfl ?_
 refine sg ?_
 obtain ⟨x1,hx1,h⟩:=bindS h
 refine ⟨_,rfl,?_⟩
 refine CallOk.call (w_ref07_dir hx1) (LeL.refl _) ?_
 refine ⟨_,rfl,?_⟩
 refine wT [(2,vs p_name),(8,.b 8 0),(9,vi x1.2)] [(8,.box [vi x1.1.Ino,vi x1.1.Kind,vi x1.1.Links,.s (mD x1.1.Data),.s (mC x1.1.Ents),vi x1.1.Up])] Q3 J1 rfl ?_
 refine sq ?_
 refine sg ?_
 refine wT [(2,vs p_name),(8,.b 8 0),(9,vi x1.2),(18,vb (x1.2 != 0))] [(8,.box [vi x1.1.Ino,vi x1.1.Kind,vi x1.1.Links,.s (mD x1.1.Data),.s (mC x1.1.Ents),vi x1.1.Up])] Q4 J1 rfl ?_
 refine cn 18 (x1.2 != 0) rfl h (fun hb h=>?_) fun hb h=>?_
 ·refine sg ?_
  refine wE [(6,vi (0)),(7,vi x1.2)] Q2 ?_
  refine rt ?_
  cases h
  exact (Fz.t (.cons Fz.v (.cons Fz.v .nil)))
 refine sk ?_
 refine sq ?_
 refine sg ?_
 obtain ⟨x2,hx2,h⟩:=bindS h
 refine CallOk.call (w_ref06N1 hx2) (LeL.refl _) ?_
 refine wT [(2,vs p_name),(8,.b 8 0),(22,vb (!x2))] [(8,.box [vi x1.1.Ino,vi x1.1.Kind,vi x1.1.Links,.s (mD x1.1.Data),.s (mC x1.1.Ents),vi x1.1.Up])] Q3 J1 rfl ?_
 refine cn 22 (!x2) rfl h (fun hb h=>?_) fun hb h=>?_
 ·refine sg ?_
  refine wE [(6,vi (0)),(7,vi (60))] Q2 ?_
  refine rt ?_
  cases h
  exact (Fz.t (.cons Fz.v (.cons Fz.v .nil)))
 refine sk ?_
 refine sg ?_
 obtain ⟨x3,hx3,h⟩:=bindS h
 refine ⟨_,rfl,?_⟩
 refine CallOk.call (w_ref07N15 hx3) (LeL.refl _) ?_
 refine wT [(8,.b 8 0),(10,vi x3)] [(8,.box [vi x1.1.Ino,vi x1.1.Kind,vi x1.1.Links,.s (mD x1.1.Data),.s (mC x1.1.Ents),vi x1.1.Up])] Q2 J1 rfl ?_
 refine sq ?_
 refine sg ?_
 refine wT [(8,.b 8 0),(10,vi x3),(27,vb (decide (x3 < 0)))] [(8,.box [vi x1.1.Ino,vi x1.1.Kind,vi x1.1.Links,.s (mD x1.1.Data),.s (mC x1.1.Ents),vi x1.1.Up])] Q3 J1 rfl ?_
 refine cn 27 (decide (x3 < 0)) rfl h (fun hb h=>?_) fun hb h=>?_
 ·refine sg ?_
  refine wE [(6,vi (0)),(7,vi (70))] Q2 ?_
  refine rt ?_
  cases h
  exact (Fz.t (.cons Fz.v (.cons Fz.v .nil)))
 refine sk ?_
 refine sg ?_
 obtain ⟨x4,hx4,h⟩:=bindS h
 refine ⟨_,rfl,_,idx_nat hx4,_,idx_row hx4,_,rfl,?_⟩
 refine wE [(6,vi x4.Ino),(7,vi (0))] Q2 ?_
 refine rt ?_
 cases h
 exact (Fz.t (.cons Fz.v (.cons Fz.v .nil)))
theorem w_ref07N14 {p_t} {p_ino} {p_name} {r} (h:ref07_left p_t p_ino p_name=some r):Pure Tryz.prog 87 [(.a [(.s (mI p_t.Nodes)),(vi p_t.Next),(vi p_t.Cookie)]),(vi p_ino),(vs p_name)] (.a [(.s (mI r.Nodes)),(vi r.Next),(vi r.Cookie)]):=by
 refine po Tryz.tok 45 Tryz.func87 (by kernel_rfl) rfl rfl rfl ?_
 unfold ref07_left at h
 refine wE [(0,.a [.s (mI p_t.Nodes),vi p_t.Next,vi p_t.Cookie]),(1,vi p_ino),(2,vs p_name)] Q3 ?_
 refine sg ?_
 refine wT [(1,vi p_ino),(2,vs p_name),(3,.b 3 0),(6,.b 6 0)] [(3,.box [.s (mI p_t.Nodes),vi p_t.Next,vi p_t.Cookie]),(6,.box [.v (.slice none 0 0),vi (0),vi (0)])] Q4 J2 rfl ?_
 refine sg ?_
 obtain ⟨x1,hx1,h⟩:=bindS h
 refine ⟨_,rfl,?_⟩
 refine CallOk.call (w_ref07_Get hx1) (LeL.refl _) ?_
 refine ⟨_,rfl,?_⟩
 refine wT [(2,vs p_name),(3,.b 3 0),(6,.b 6 0),(7,.b 7 0)] [(3,.box [.s (mI p_t.Nodes),vi p_t.Next,vi p_t.Cookie]),(6,.box [.v (.slice none 0 0),vi (0),vi (0)]),(7,.box [vi x1.1.Ino,vi x1.1.Kind,vi x1.1.Links,.s (mD x1.1.Data),.s (mC x1.1.Ents),vi x1.1.Up])] Q4 J3 rfl ?_
 refine sg ?_
 refine wT [(2,vs p_name),(3,.b 3 0),(6,.b 6 0),(7,.b 7 0),(9,.v (.slice none 0 0))] [(3,.box [.s (mI p_t.Nodes),vi p_t.Next,vi p_t.Cookie]),(6,.box [.v (.slice none 0 0),vi (0),vi (0)]),(7,.box [vi x1.1.Ino,vi x1.1.Kind,vi x1.1.Links,.s (mD x1.1.Data),.s (mC x1.1.Ents),vi x1.1.Up])] Q5 J3 rfl ?_
 obtain ⟨v1,hv1,h⟩:=bindS h
 refine Ok.seqw ⟨Cat.tab [(3,.b 3 0),(6,.b 6 0),(7,.b 7 0),(9,.o 39)],[(3,.box [.s (mI p_t.Nodes),vi p_t.Next,vi p_t.Cookie]),(6,.box [.v (.slice none 0 0),vi (0),vi (0)]),(7,.box [vi x1.1.Ino,vi x1.1.Kind,vi x1.1.Links,.s (mD x1.1.Data),.s (mC x1.1.Ents),vi x1.1.Up]),(39,.own 122 3 (mC v1))]⟩ ?_ ?_
 ·refine sg ?_
  refine wT [(2,vs p_name),(3,.b 3 0),(6,.b 6 0),(7,.b 7 0),(9,.v (.slice none 0 0)),(10,vi (0))] [(3,.box [.s (mI p_t.Nodes),vi p_t.Next,vi p_t.Cookie]),(6,.box [.v (.slice none 0 0),vi (0),vi (0)]),(7,.box [vi x1.1.Ino,vi x1.1.Kind,vi x1.1.Links,.s (mD x1.1.Data),.s (mC x1.1.Ents),vi x1.1.Up])] Q6 J3 rfl ?_
  refine bl ?_
  refine Ok.loop (fun (s1:Int×(List api_Ent))=>⟨Cat.tab [(2,vs p_name),(3,.b 3 0),(6,.b 6 0),(7,.b 7 0),(9,.o 39),(10,vi s1.1)],[(3,.box [.s (mI p_t.Nodes),vi p_t.Next,vi p_t.Cookie]),(6,.box [.v (.slice none 0 0),vi (0),vi (0)]),(7,.box [vi x1.1.Ino,vi x1.1.Kind,vi x1.1.Links,.s (mD x1.1.Data),.s (mC x1.1.Ents),vi x1.1.Up]),(39,.own 122 3 (mC s1.2))]⟩) (ref07N27 x1 p_name) (s0:=(0,[])) hv1 ((Wk.own0 (t:=9) (id:=39) (E:=122) (K:=3) rfl rfl).trans (wt Q6 ⟨⟨_,rfl,.refl _⟩,⟨_,rfl,.refl _⟩,⟨_,rfl,.refl _⟩,⟨_,rfl,.refl _⟩,Q0⟩ rfl)) ?_
  intro s1 y1 hB1 hy1
  unfold ref07N27 at hB1
  refine sq ?_
  refine sg ?_
  refine ⟨_,rfl,_,List.length_map _,fun _=>?_⟩
  refine wT [(2,vs p_name),(3,.b 3 0),(6,.b 6 0),(7,.b 7 0),(9,.o 39),(10,vi s1.1),(21,vb (decide (s1.1 < (x1.1.Ents.length:Int))))] [(3,.box [.s (mI p_t.Nodes),vi p_t.Next,vi p_t.Cookie]),(6,.box [.v (.slice none 0 0),vi (0),vi (0)]),(7,.box [vi x1.1.Ino,vi x1.1.Kind,vi x1.1.Links,.s (mD x1.1.Data),.s (mC x1.1.Ents),vi x1.1.Up]),(39,.own 122 3 (mC s1.2))] Q7 J4 rfl ?_
  refine cn 21 (decide (s1.1 < (x1.1.Ents.length:Int))) rfl hB1 (fun hb hB1=>?_) fun hb hB1=>?_
  ·refine sk ?_
   obtain ⟨v2,hv2,hB1⟩:=bindS hB1
   refine Ok.seqw ⟨Cat.tab [(2,vs p_name),(3,.b 3 0),(6,.b 6 0),(7,.b 7 0),(9,.o 39),(10,vi s1.1)],[(3,.box [.s (mI p_t.Nodes),vi p_t.Next,vi p_t.Cookie]),(6,.box [.v (.slice none 0 0),vi (0),vi (0)]),(7,.box [vi x1.1.Ino,vi x1.1.Kind,vi x1.1.Links,.s (mD x1.1.Data),.s (mC x1.1.Ents),vi x1.1.Up]),(39,.own 122 3 (mC v2))]⟩ ?_ ?_
   ·refine bl ?_
    refine sg ?_
    obtain ⟨x2,hx2,hv2⟩:=bindS hv2
    refine ⟨_,rfl,_,idx_nat hx2,_,idx_row hx2,_,rfl,_,str_neq _ _,?_⟩
    refine wT [(2,vs p_name),(3,.b 3 0),(6,.b 6 0),(7,.b 7 0),(9,.o 39),(10,vi s1.1),(31,vb (!(x2.Name == p_name)))] [(3,.box [.s (mI p_t.Nodes),vi p_t.Next,vi p_t.Cookie]),(6,.box [.v (.slice none 0 0),vi (0),vi (0)]),(7,.box [vi x1.1.Ino,vi x1.1.Kind,vi x1.1.Links,.s (mD x1.1.Data),.s (mC x1.1.Ents),vi x1.1.Up]),(39,.own 122 3 (mC s1.2))] Q7 J4 rfl ?_
    refine cn 31 (!(x2.Name == p_name)) rfl hv2 (fun hb hv2=>?_) fun hb hv2=>?_
    ·refine rg ?_
     obtain ⟨x3,hx3,hv2⟩:=bindS hv2
     obtain ⟨hc1,hv2⟩:=chk_some hv2
     refine ⟨_,rfl,_,idx_nat hx3,_,idx_row hx3,_,rfl,Or.inl ⟨rowsLen_map (f:=c_api_Ent) (n:=3) (fun _=>rfl) ([x3]),app_b2 (f:=c_api_Ent) (l:=s1.2) (l':=[x3]) hc1,_,(List.map_append (f:=c_api_Ent) (l₁:=s1.2) (l₂:=[x3])).symm,?_⟩⟩
     cases hv2
     exact wt Q6 J4 rfl
    refine sk ?_
    cases hv2
    exact wt Q6 J4 rfl
   refine rg ?_
   obtain ⟨hc2,hB1⟩:=chk_some hB1
   refine (Or.inl ⟨hc2,?_⟩)
   exact ⟨_,sj hB1,wt Q6 J4 rfl⟩
  refine xt ?_
  have hB1:=out_ret hB1 hy1
  cases hB1
  exact wt Q4 J4 rfl
 refine sg ?_
 refine ⟨_,rfl,?_⟩
 refine wT [(3,.b 3 0),(6,.b 6 0),(7,.b 7 0)] [(3,.box [.s (mI p_t.Nodes),vi p_t.Next,vi p_t.Cookie]),(6,.box [.v (.slice none 0 0),vi (0),vi (0)]),(7,.box [vi x1.1.Ino,vi x1.1.Kind,vi x1.1.Links,.s (mD x1.1.Data),.o 39,vi x1.1.Up]),(39,.own 122 3 (mC v1))] Q3 J4 rfl ?_
 refine sg ?_
 obtain ⟨x4,hx4,h⟩:=bindS h
 refine ⟨_,rfl,_,rfl,?_⟩
 refine CallOk.freeze (id:=39) rfl (CallOk.call (w_ref07N18 hx4) (LeL.refl _) ?_)
 refine ⟨_,rfl,?_⟩
 refine wT [(6,.b 6 0)] [(6,.box [.s (mI x4.Nodes),vi x4.Next,vi x4.Cookie])] Q1 J1 rfl ?_
 refine rt ?_
 cases h
 exact ⟨_,rfl,(Fz.imm rfl)⟩
theorem w_ref07N19 {p_t} {p_ino} {r} (h:ref07N46 p_t p_ino=some r):Pure Tryz.prog 93 [(.a [(.s (mI p_t.Nodes)),(vi p_t.Next),(vi p_t.Cookie)]),(vi p_ino)] (.a [(.s (mI r.Nodes)),(vi r.Next),(vi r.Cookie)]):=by
 refine po Tryz.tok 33 Tryz.func93 (by kernel_rfl) rfl rfl rfl ?_
 unfold ref07N46 at h
 refine wE [(0,.a [.s (mI p_t.Nodes),vi p_t.Next,vi p_t.Cookie]),(1,vi p_ino)] Q2 ?_
 refine sg ?_
 refine wT [(1,vi p_ino),(2,.b 2 0),(4,.b 4 0)] [(2,.box [.s (mI p_t.Nodes),vi p_t.Next,vi p_t.Cookie]),(4,.box [.v (.slice none 0 0),vi (0),vi (0)])] Q3 J2 rfl ?_
 refine sg ?_
 refine wT [(1,vi p_ino),(2,.b 2 0),(4,.b 4 0),(5,.v (.slice none 0 0))] [(2,.box [.s (mI p_t.Nodes),vi p_t.Next,vi p_t.Cookie]),(4,.box [.v (.slice none 0 0),vi (0),vi (0)])] Q4 J2 rfl ?_
 obtain ⟨v1,hv1,h⟩:=bindS h
 refine Ok.seqw ⟨Cat.tab [(2,.b 2 0),(4,.b 4 0),(5,.o 29)],[(2,.box [.s (mI p_t.Nodes),vi p_t.Next,vi p_t.Cookie]),(4,.box [.v (.slice none 0 0),vi (0),vi (0)]),(29,.own 55 6 (mI v1))]⟩ ?_ ?_
 ·refine sg ?_
  refine wT [(1,vi p_ino),(2,.b 2 0),(4,.b 4 0),(5,.v (.slice none 0 0)),(6,vi (0))] [(2,.box [.s (mI p_t.Nodes),vi p_t.Next,vi p_t.Cookie]),(4,.box [.v (.slice none 0 0),vi (0),vi (0)])] Q5 J2 rfl ?_
  refine bl ?_
  refine Ok.loop (fun (s1:Int×(List api_Node))=>⟨Cat.tab [(1,vi p_ino),(2,.b 2 0),(4,.b 4 0),(5,.o 29),(6,vi s1.1)],[(2,.box [.s (mI p_t.Nodes),vi p_t.Next,vi p_t.Cookie]),(4,.box [.v (.slice none 0 0),vi (0),vi (0)]),(29,.own 55 6 (mI s1.2))]⟩) (ref07N47 p_t p_ino) (s0:=(0,[])) hv1 ((Wk.own0 (t:=5) (id:=29) (E:=55) (K:=6) rfl rfl).trans (wt Q5 ⟨⟨_,rfl,.refl _⟩,⟨_,rfl,.refl _⟩,⟨_,rfl,.refl _⟩,Q0⟩ rfl)) ?_
  intro s1 y1 hB1 hy1
  unfold ref07N47 at hB1
  refine sq ?_
  refine sg ?_
  refine ⟨_,rfl,_,List.length_map _,fun _=>?_⟩
  refine wT [(1,vi p_ino),(2,.b 2 0),(4,.b 4 0),(5,.o 29),(6,vi s1.1),(11,vb (decide (s1.1 < (p_t.Nodes.length:Int))))] [(2,.box [.s (mI p_t.Nodes),vi p_t.Next,vi p_t.Cookie]),(4,.box [.v (.slice none 0 0),vi (0),vi (0)]),(29,.own 55 6 (mI s1.2))] Q6 J3 rfl ?_
  refine cn 11 (decide (s1.1 < (p_t.Nodes.length:Int))) rfl hB1 (fun hb hB1=>?_) fun hb hB1=>?_
  ·refine sk ?_
   obtain ⟨v2,hv2,hB1⟩:=bindS hB1
   refine Ok.seqw ⟨Cat.tab [(1,vi p_ino),(2,.b 2 0),(4,.b 4 0),(5,.o 29),(6,vi s1.1)],[(2,.box [.s (mI p_t.Nodes),vi p_t.Next,vi p_t.Cookie]),(4,.box [.v (.slice none 0 0),vi (0),vi (0)]),(29,.own 55 6 (mI v2))]⟩ ?_ ?_
   ·refine bl ?_
    refine sg ?_
    obtain ⟨x1,hx1,hv2⟩:=bindS hv2
    refine ⟨_,rfl,_,idx_nat hx1,_,idx_row hx1,_,rfl,?_⟩
    refine wT [(1,vi p_ino),(2,.b 2 0),(4,.b 4 0),(5,.o 29),(6,vi s1.1),(21,vb (x1.Ino != p_ino))] [(2,.box [.s (mI p_t.Nodes),vi p_t.Next,vi p_t.Cookie]),(4,.box [.v (.slice none 0 0),vi (0),vi (0)]),(29,.own 55 6 (mI s1.2))] Q6 J3 rfl ?_
    refine cn 21 (x1.Ino != p_ino) rfl hv2 (fun hb hv2=>?_) fun hb hv2=>?_
    ·refine rg ?_
     obtain ⟨x2,hx2,hv2⟩:=bindS hv2
     obtain ⟨hc1,hv2⟩:=chk_some hv2
     refine ⟨_,rfl,_,idx_nat hx2,_,idx_row hx2,_,rfl,Or.inl ⟨rowsLen_map (f:=c_api_Node) (n:=6) (fun _=>rfl) ([x2]),app_b2 (f:=c_api_Node) (l:=s1.2) (l':=[x2]) hc1,_,(List.map_append (f:=c_api_Node) (l₁:=s1.2) (l₂:=[x2])).symm,?_⟩⟩
     cases hv2
     exact wt Q5 J3 rfl
    refine sk ?_
    cases hv2
    exact wt Q5 J3 rfl
   refine rg ?_
   obtain ⟨hc2,hB1⟩:=chk_some hB1
   refine (Or.inl ⟨hc2,?_⟩)
   exact ⟨_,sj hB1,wt Q5 J3 rfl⟩
  refine xt ?_
  have hB1:=out_ret hB1 hy1
  cases hB1
  exact wt Q3 J3 rfl
 refine sg ?_
 refine ⟨_,rfl,?_⟩
 refine wT [(2,.b 2 0),(4,.b 4 0)] [(2,.box [.o 29,vi p_t.Next,vi p_t.Cookie]),(29,.own 55 6 (mI v1)),(4,.box [.v (.slice none 0 0),vi (0),vi (0)])] Q2 J3 rfl ?_
 refine sg ?_
 refine ⟨_,rfl,_,rfl,?_⟩
 refine wT [(4,.b 4 0)] [(4,.box [.o 29,vi p_t.Next,vi p_t.Cookie]),(29,.own 55 6 (mI v1))] Q1 J2 rfl ?_
 refine rt ?_
 cases h
 exact ⟨_,rfl,(Fz.a (.cons (Fz.o rfl) (.cons Fz.v (.cons Fz.v .nil))))⟩
theorem w_ref07N17 {p_t} {p_ino} {r} (h:ref07N41 p_t p_ino=some r):Pure Tryz.prog 86 [(.a [(.s (mI p_t.Nodes)),(vi p_t.Next),(vi p_t.Cookie)]),(vi p_ino)] (.a [(.s (mI r.Nodes)),(vi r.Next),(vi r.Cookie)]):=by
 refine po Tryz.tok 26 Tryz.func86 (by kernel_rfl) rfl rfl rfl ?_
 unfold ref07N41 at h
 refine wE [(0,.a [.s (mI p_t.Nodes),vi p_t.Next,vi p_t.Cookie]),(1,vi p_ino)] Q2 ?_
 refine sg ?_
 refine wT [(1,vi p_ino),(2,.b 2 0),(4,.b 4 0)] [(2,.box [.s (mI p_t.Nodes),vi p_t.Next,vi p_t.Cookie]),(4,.box [.v (.slice none 0 0),vi (0),vi (0)])] Q3 J2 rfl ?_
 refine sg ?_
 obtain ⟨x1,hx1,h⟩:=bindS h
 refine ⟨_,rfl,?_⟩
 refine CallOk.call (w_ref07_Get hx1) (LeL.refl _) ?_
 refine ⟨_,rfl,?_⟩
 refine wT [(1,vi p_ino),(2,.b 2 0),(4,.b 4 0),(5,.b 5 0)] [(2,.box [.s (mI p_t.Nodes),vi p_t.Next,vi p_t.Cookie]),(4,.box [.v (.slice none 0 0),vi (0),vi (0)]),(5,.box [vi x1.1.Ino,vi x1.1.Kind,vi x1.1.Links,.s (mD x1.1.Data),.s (mC x1.1.Ents),vi x1.1.Up])] Q4 J3 rfl ?_
 refine sq ?_
 refine sg ?_
 refine ⟨_,rfl,?_⟩
 refine wT [(1,vi p_ino),(2,.b 2 0),(4,.b 4 0),(5,.b 5 0),(15,vb (x1.1.Kind == 2))] [(2,.box [.s (mI p_t.Nodes),vi p_t.Next,vi p_t.Cookie]),(4,.box [.v (.slice none 0 0),vi (0),vi (0)]),(5,.box [vi x1.1.Ino,vi x1.1.Kind,vi x1.1.Links,.s (mD x1.1.Data),.s (mC x1.1.Ents),vi x1.1.Up])] Q5 J3 rfl ?_
 refine cn 15 (x1.1.Kind == 2) rfl h (fun hb h=>?_) fun hb h=>?_
 ·refine sg ?_
  obtain ⟨x2,hx2,h⟩:=bindS h
  refine ⟨_,rfl,?_⟩
  refine CallOk.call (w_ref07N19 hx2) (LeL.refl _) ?_
  refine ⟨_,rfl,?_⟩
  refine wT [(4,.b 4 0)] [(4,.box [.s (mI x2.Nodes),vi x2.Next,vi x2.Cookie])] Q1 J1 rfl ?_
  refine rt ?_
  cases h
  exact ⟨_,rfl,(Fz.imm rfl)⟩
 refine sk ?_
 refine sg ?_
 obtain ⟨hc1,h⟩:=chk_some h
 refine ⟨_,rfl,(Or.inl ⟨hc1,_,rfl,?_⟩)⟩
 refine wT [(2,.b 2 0),(4,.b 4 0),(5,.b 5 0)] [(2,.box [.s (mI p_t.Nodes),vi p_t.Next,vi p_t.Cookie]),(4,.box [.v (.slice none 0 0),vi (0),vi (0)]),(5,.box [vi x1.1.Ino,vi x1.1.Kind,vi (x1.1.Links - 1),.s (mD x1.1.Data),.s (mC x1.1.Ents),vi x1.1.Up])] Q3 J3 rfl ?_
 refine sg ?_
 obtain ⟨x3,hx3,h⟩:=bindS h
 refine ⟨_,rfl,_,rfl,?_⟩
 refine CallOk.call (w_ref07N18 hx3) (LeL.refl _) ?_
 refine ⟨_,rfl,?_⟩
 refine wT [(4,.b 4 0)] [(4,.box [.s (mI x3.Nodes),vi x3.Next,vi x3.Cookie])] Q1 J1 rfl ?_
 refine rt ?_
 cases h
 exact ⟨_,rfl,(Fz.imm rfl)⟩
theorem w_ref07_Un {p_t} {p_ino} {p_name} {r} (h:ref07_Un p_t p_ino p_name=some r):Pure Tryz.prog 54 [(.a [(.s (mI p_t.Nodes)),(vi p_t.Next),(vi p_t.Cookie)]),(vi p_ino),(vs p_name)] (.t [(.a [(.s (mI r.1.Nodes)),(vi r.1.Next),(vi r.1.Cookie)]),(vi r.2.1),(vi r.2.2)]):=by
 refine po Tryz.tok 42 Tryz.func54 (by kernel_rfl) rfl rfl rfl ?_
 unfold ref07_Un at h
 refine wE [(0,.a [.s (mI p_t.Nodes),vi p_t.Next,vi p_t.Cookie]),(1,vi p_ino),(2,vs p_name)] Q3 ?_
 refine sg ?_
 refine wT [(1,vi p_ino),(2,vs p_name),(3,.b 3 0),(6,.b 6 0)] [(3,.box [.s (mI p_t.Nodes),vi p_t.Next,vi p_t.Cookie]),(6,.box [.v (.slice none 0 0),vi (0),vi (0)])] Q4 J2 rfl ?_
 refine sg ?_
 obtain ⟨x1,hx1,h⟩:=bindS h
 refine ⟨_,rfl,?_⟩
 refine CallOk.call (w_ref07N3 hx1) (LeL.refl _) ?_
 refine wT [(1,vi p_ino),(2,vs p_name),(3,.b 3 0),(6,.b 6 0),(9,vi x1.1),(10,vi x1.2)] [(3,.box [.s (mI p_t.Nodes),vi p_t.Next,vi p_t.Cookie]),(6,.box [.v (.slice none 0 0),vi (0),vi (0)])] Q6 J2 rfl ?_
 refine sq ?_
 refine sg ?_
 refine wT [(1,vi p_ino),(2,vs p_name),(3,.b 3 0),(6,.b 6 0),(9,vi x1.1),(10,vi x1.2),(21,vb (x1.2 != 0))] [(3,.box [.s (mI p_t.Nodes),vi p_t.Next,vi p_t.Cookie]),(6,.box [.v (.slice none 0 0),vi (0),vi (0)])] Q7 J2 rfl ?_
 refine cn 21 (x1.2 != 0) rfl h (fun hb h=>?_) fun hb h=>?_
 ·refine sg ?_
  refine ⟨_,rfl,_,rfl,?_⟩
  refine wT [(6,.b 6 0),(7,vi (0)),(8,vi x1.2)] [(6,.box [.s (mI p_t.Nodes),vi p_t.Next,vi p_t.Cookie])] Q3 J1 rfl ?_
  refine rt ?_
  cases h
  exact ⟨_,rfl,(Fz.t (.cons (Fz.imm rfl) (.cons Fz.v (.cons Fz.v .nil))))⟩
 refine sk ?_
 refine sg ?_
 obtain ⟨x2,hx2,h⟩:=bindS h
 refine ⟨_,rfl,?_⟩
 refine CallOk.call (w_ref07_Get hx2) (LeL.refl _) ?_
 refine ⟨_,rfl,?_⟩
 refine wT [(1,vi p_ino),(2,vs p_name),(3,.b 3 0),(6,.b 6 0),(9,vi x1.1),(11,.b 11 0)] [(3,.box [.s (mI p_t.Nodes),vi p_t.Next,vi p_t.Cookie]),(6,.box [.v (.slice none 0 0),vi (0),vi (0)]),(11,.box [vi x2.1.Ino,vi x2.1.Kind,vi x2.1.Links,.s (mD x2.1.Data),.s (mC x2.1.Ents),vi x2.1.Up])] Q6 J3 rfl ?_
 refine sq ?_
 refine sg ?_
 refine ⟨_,rfl,_,List.length_map _,fun _=>?_⟩
 refine wT [(1,vi p_ino),(2,vs p_name),(3,.b 3 0),(6,.b 6 0),(9,vi x1.1),(33,vb (decide ((x2.1.Ents.length:Int) > 0)))] [(3,.box [.s (mI p_t.Nodes),vi p_t.Next,vi p_t.Cookie]),(6,.box [.v (.slice none 0 0),vi (0),vi (0)])] Q6 J2 rfl ?_
 refine cn 33 (decide ((x2.1.Ents.length:Int) > 0)) rfl h (fun hb h=>?_) fun hb h=>?_
 ·refine sg ?_
  refine ⟨_,rfl,_,rfl,?_⟩
  refine wT [(6,.b 6 0),(7,vi (0)),(8,vi (74))] [(6,.box [.s (mI p_t.Nodes),vi p_t.Next,vi p_t.Cookie])] Q3 J1 rfl ?_
  refine rt ?_
  cases h
  exact ⟨_,rfl,(Fz.t (.cons (Fz.imm rfl) (.cons Fz.v (.cons Fz.v .nil))))⟩
 refine sk ?_
 refine sg ?_
 obtain ⟨x3,hx3,h⟩:=bindS h
 refine ⟨_,rfl,?_⟩
 refine CallOk.call (w_ref07N14 hx3) (LeL.refl _) ?_
 obtain ⟨x4,hx4,h⟩:=bindS h
 refine CallOk.call (w_ref07N17 hx4) (LeL.refl _) ?_
 refine ⟨_,rfl,?_⟩
 refine wT [(6,.b 6 0),(7,vi x1.1),(8,vi (0))] [(6,.box [.s (mI x4.Nodes),vi x4.Next,vi x4.Cookie])] Q3 J1 rfl ?_
 refine rt ?_
 cases h
 exact ⟨_,rfl,(Fz.t (.cons (Fz.imm rfl) (.cons Fz.v (.cons Fz.v .nil))))⟩
end Go.Proofs
