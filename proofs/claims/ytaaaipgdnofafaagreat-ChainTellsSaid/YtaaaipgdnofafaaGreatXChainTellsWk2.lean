/- The walks of this seat beside the plain programs, part 2. No condition. -/
import Derived.Test.YtaaaipgdnofafaaGreatXChainTellsEn
import Derived.Test.YtaaaipgdnofafaaGreatXChainTellsWk0
import Derived.Test.YtaaaipgdnofafaaGreatXChainTellsWk1
namespace Go.Proofs
set_option linter.all false
open Go Go.Cat
variable [M:Mono]
set_option maxRecDepth 100000
theorem wg_chainN7 {l:Nat} {p_b2:Bool} {p_b3:api_Chain} {p_b4:List api_Disk} {r:LS×(List UInt8)×Bool} (h:chainN36 p_b2 p_b3 p_b4=some r):CallOk Tryz.prog 72 [(.c (.yield l) [] []),(.b 1003 0),(.b 1004 0)] ⟨noSlots,[(1000,.lp l .rdy Tryz.rf53_0 [(4,(.b 1001 0)),(5,(.b 1002 0))]),(1001,.box [(.v (.slice none 0 0))]),(1002,.box [(vb p_b2)]),(1003,.box [(vi p_b3.Id),(vi p_b3.Ver),(.s (mI p_b3.Servers))]),(1004,.box [(.s (mA p_b4))])]⟩ fun x s=>x=(.t [])∧s.H=[(1000,.lp l r.1 Tryz.rf53_0 [(4,(.b 1001 0)),(5,(.b 1002 0))]),(1001,.box [(.s (mU r.2.1))]),(1002,.box [(vb r.2.2)]),(1003,.box [(vi p_b3.Id),(vi p_b3.Ver),(.s (mI p_b3.Servers))]),(1004,.box [(.s (mA p_b4))])]:=by
 refine pgen_of_ok (n:=43) (c:=Tryz.f72.body.getD .skip) Tryz.tok Tryz.func72 (by kernel_rfl) rfl rfl (Nat.le_of_ble_eq_true rfl) ?_
 unfold chainN36 at h
 refine wT [(0,.c (.yield l) [] []),(1,.b 1003 0),(2,.b 1004 0)] [(1000,.lp l .rdy Tryz.rf53_0 [(4,.b 1001 0),(5,.b 1002 0)]),(1001,.box [.v (.slice none 0 0)]),(1002,.box [vb p_b2]),(1003,.box [vi p_b3.Id,vi p_b3.Ver,.s (mI p_b3.Servers)]),(1004,.box [.s (mA p_b4)])] Q3 ⟨hr,J4⟩ rfl ?_
 refine sg ?_
 refine ⟨_,rfl,_,List.length_map _,fun _=>?_⟩
 refine bl ?_
 refine Ok.loop (fun (s1:Int×LS×(List UInt8)×Bool)=>⟨Cat.tab [(0,.c (.yield l) [] []),(1,.b 1003 0),(2,.b 1004 0),(9,.s (mI p_b3.Servers)),(10,vi (p_b3.Servers.length:Int)),(11,vi s1.1)],[(1000,.lp l s1.2.1 Tryz.rf53_0 [(4,.b 1001 0),(5,.b 1002 0)]),(1001,.box [.s (mU s1.2.2.1)]),(1002,.box [vb s1.2.2.2]),(1003,.box [vi p_b3.Id,vi p_b3.Ver,.s (mI p_b3.Servers)]),(1004,.box [.s (mA p_b4)])]⟩) (chainN50 p_b3 p_b4) (s0:=(0,.rdy,[],p_b2)) h (wt Q6 ⟨⟨_,rfl,.refl _⟩,⟨_,rfl,.box (.cons (Le.nil) (.nil))⟩,⟨_,rfl,.refl _⟩,⟨_,rfl,.refl _⟩,⟨_,rfl,.refl _⟩,Q0⟩ rfl) ?_
 intro s1 y1 hB1 hy1
 unfold chainN50 at hB1
 refine sg ?_
 refine wT [(0,.c (.yield l) [] []),(1,.b 1003 0),(2,.b 1004 0),(9,.s (mI p_b3.Servers)),(10,vi (p_b3.Servers.length:Int)),(11,vi s1.1),(12,vb (decide (s1.1 < (p_b3.Servers.length:Int))))] [(1000,.lp l s1.2.1 Tryz.rf53_0 [(4,.b 1001 0),(5,.b 1002 0)]),(1001,.box [.s (mU s1.2.2.1)]),(1002,.box [vb s1.2.2.2]),(1003,.box [vi p_b3.Id,vi p_b3.Ver,.s (mI p_b3.Servers)]),(1004,.box [.s (mA p_b4)])] Q7 ⟨hr,J4⟩ rfl ?_
 refine sq ?_
 refine cn 12 (decide (s1.1 < (p_b3.Servers.length:Int))) rfl hB1 (fun hb hB1=>?_) fun hb hB1=>?_
 ·refine sk ?_
  refine sq ?_
  refine bl ?_
  refine sg ?_
  obtain ⟨x1,hx1,hB1⟩:=bindS hB1
  refine ⟨_,idx_nat hx1,_,idx_row hx1,_,rfl,?_⟩
  refine wT [(0,.c (.yield l) [] []),(1,.b 1003 0),(2,.b 1004 0),(5,vi x1),(9,.s (mI p_b3.Servers)),(10,vi (p_b3.Servers.length:Int)),(11,vi s1.1)] [(1000,.lp l s1.2.1 Tryz.rf53_0 [(4,.b 1001 0),(5,.b 1002 0)]),(1001,.box [.s (mU s1.2.2.1)]),(1002,.box [vb s1.2.2.2]),(1003,.box [vi p_b3.Id,vi p_b3.Ver,.s (mI p_b3.Servers)]),(1004,.box [.s (mA p_b4)])] Q7 ⟨hr,J4⟩ rfl ?_
  refine sq ?_
  refine Ok.draw2 (m:=11) (late:=[9]) (MD:=⟨[]⟩) (CH:=⟨[]⟩) Tryz.tok Tryz.mixed (by kernel_rfl) ?_
  obtain ⟨x2,hx2,hB1⟩:=bindS hB1
  obtain ⟨x3,hx3,hB1⟩:=bindS hB1
  refine ⟨_,⟨_,rfl,rfl⟩,_,rfl,_,⟨_,idx_nat hx2,_,idx_row hx2,rfl⟩,_,⟨_,rfl,rfl⟩,_,rfl,_,⟨_,rfl,rfl⟩,_,⟨_,.of_pure (w_chunk_Get hx3) (LeL.refl _),rfl⟩,_,rfl,_,rfl,_,rfl,Q0,?_⟩
  refine ⟨_,rfl,⟨⟨_,rfl,rfl⟩,Q0⟩,?_⟩
  obtain ⟨v1,hv1,hB1⟩:=bindS hB1
  refine Ok.seqw ⟨Cat.tab [(0,.c (.yield l) [] []),(1,.b 1003 0),(2,.b 1004 0),(9,.s (mI p_b3.Servers)),(10,vi (p_b3.Servers.length:Int)),(11,vi s1.1),(41,vb v1.1)],[(1000,.lp l v1.2.1 Tryz.rf53_0 [(4,.b 1001 0),(5,.b 1002 0)]),(1001,.box [.s (mU v1.2.2.1)]),(1002,.box [vb v1.2.2.2]),(1003,.box [vi p_b3.Id,vi p_b3.Ver,.s (mI p_b3.Servers)]),(1004,.box [.s (mA p_b4)])]⟩ ?_ ?_
  ·refine rg ?_
   obtain ⟨c1,hg1,hv1⟩:=bindS hv1
   refine Br.ite hg1 (fun hb hg1=>?_) fun hb hg1=>?_
   ·refine ⟨_,rfl,_,rfl,?_⟩
    cases hg1
    obtain ⟨c2,hg2,hv1⟩:=bindS hv1
    refine Br.ite hg2 (fun hb hg2=>?_) fun hb hg2=>?_
    ·obtain ⟨hc1,hg2⟩:=chk_some hg2
     obtain ⟨x4,hx4,hg2⟩:=bindS hg2
     refine ⟨_,rfl,?_⟩
     refine CallOk.gen (m:=[(1000,1000),(1001,1001),(1002,1002)]) (n:=[]) (wg_chainN3 hx4) (.cons (Ln.imm rfl) (.cons (Ln.imm rfl) (.nil))) ⟨⟨1000,_,rfl,rfl,.lp hc1 ⟨rfl,Ln.b rfl,rfl,Ln.b rfl,Q0⟩⟩,⟨1001,_,rfl,rfl,.box (.cons (Ln.imm rfl) (.nil))⟩,⟨1002,_,rfl,rfl,.box (.cons (Ln.imm rfl) (.nil))⟩,Q0⟩ rfl rfl rfl ?_
     cases hg2
     cases hv1
     exact wt Q7 ⟨hr,J4⟩ rfl
    cases hg2
    cases hv1
    exact wt Q7 ⟨hr,J4⟩ rfl
   cases hg1
   obtain ⟨c2,hg3,hv1⟩:=bindS hv1
   replace hg3:=iteF hg3
   cases hg3
   cases hv1
   exact wt Q7 ⟨hr,J4⟩ rfl
  refine cn 41 (v1.1) rfl hB1 (fun hb hB1=>?_) fun hb hB1=>?_
  ·refine rt ?_
   have hB1:=out_ret hB1 hy1
   cases hB1
   exact wt Q1 ⟨hr,J4⟩ rfl
  refine sk ?_
  refine rg ?_
  obtain ⟨hc2,hB1⟩:=chk_some hB1
  refine (Or.inl ⟨hc2,?_⟩)
  exact ⟨_,sj hB1,wt Q6 ⟨hr,J4⟩ rfl⟩
 refine xt ?_
 have hB1:=out_ret hB1 hy1
 cases hB1
 exact wt Q1 ⟨hr,J4⟩ rfl
theorem w_chainN12 {p_c} {p_disks} {r} (h:chain_first p_c p_disks=some r):Pure Tryz.prog 53 [(.a [(vi p_c.Id),(vi p_c.Ver),(.s (mI p_c.Servers))]),(.s (mA p_disks))] (.t [(.s (mU r.1)),(vb r.2)]):=by
 refine po Tryz.tok 14 Tryz.func53 (by kernel_rfl) rfl rfl rfl ?_
 unfold chain_first at h
 refine wE [(0,.a [vi p_c.Id,vi p_c.Ver,.s (mI p_c.Servers)]),(1,.s (mA p_disks))] Q2 ?_
 refine sg ?_
 refine wT [(1,.s (mA p_disks)),(2,.b 2 0),(4,.b 4 0),(5,.b 5 0)] [(2,.box [vi p_c.Id,vi p_c.Ver,.s (mI p_c.Servers)]),(4,.box [.v (.slice none 0 0)]),(5,.box [vb false])] Q4 J3 rfl ?_
 refine sq ?_
 refine sg ?_
 obtain ⟨x1,hx1,h⟩:=bindS h
 refine ⟨_,rfl,?_⟩
 refine CallOk.gen (m:=[]) (n:=[(2,999),(3,998)]) (wg_chainN6 hx1) (.cons (Ln.imm rfl) (.cons (Ln.imm rfl) (.nil))) Q0 rfl rfl rfl ?_
 refine bl ?_
 obtain ⟨x2,hx2,h⟩:=bindS h
 refine Ok.rangeFunc (lid:=997) (R0:=Tryz.rf53_0) (L:=[(4,.b 4 0),(5,.b 5 0)]) (by kernel_rfl) rfl rfl Q2 (fun l=>CallOk.gen (m:=[(1000,997),(1001,4),(1002,5),(1003,999),(1004,998)]) (n:=[]) (wg_chainN7 hx2) (.cons (Ln.c .nil .nil) (.cons (Ln.b rfl) (.cons (Ln.b rfl) (.nil)))) ⟨⟨997,_,rfl,rfl,.lp rfl ⟨rfl,Ln.b rfl,rfl,Ln.b rfl,Q0⟩⟩,⟨4,_,rfl,rfl,.box (.cons (Ln.imm rfl) (.nil))⟩,⟨5,_,rfl,rfl,.box (.cons (Ln.imm rfl) (.nil))⟩,⟨999,_,rfl,rfl,.box (.cons (Ln.imm rfl) (.cons (Ln.imm rfl) (.cons (Ln.imm rfl) (.nil))))⟩,⟨998,_,rfl,rfl,.box (.cons (Ln.imm rfl) (.nil))⟩,Q0⟩ rfl rfl rfl ⟨_,_,_,rfl,?_⟩)
 refine rfq_rdy h (fun h=>?_) (fun h=>?_)
 ·refine wT [(4,.b 4 0),(5,.b 5 0)] [(4,.box [.s (mU x2.2.1)]),(5,.box [vb x2.2.2])] Q2 J2 rfl ?_
  refine sg ?_
  refine ⟨_,rfl,_,rfl,?_⟩
  refine wT [(4,.b 4 0),(5,.b 5 0)] [(4,.box [.v (.slice none 0 0)]),(5,.box [vb false])] Q2 J2 rfl ?_
  refine rt ?_
  cases h
  exact ⟨_,rfl,_,rfl,(Fz.t (.cons Fz.nil (.cons Fz.v .nil)))⟩
 refine rfq_ret h (fun h=>?_) (fun h=>?_)
 ·cases h
  exact ⟨_,rfl,_,rfl,(Fz.t (.cons Fz.s (.cons Fz.v .nil)))⟩
 cases h
theorem w_chain_Cut [Off] {p_c} {p_disks} {p_server} {r} (h:chain_Cut p_c p_disks p_server=some r):Pure Tryz.prog 23 [(.a [(vi p_c.Id),(vi p_c.Ver),(.s (mI p_c.Servers))]),(.s (mA p_disks)),(vi p_server)] (.t [(.a [(vi r.1.Id),(vi r.1.Ver),(.s (mI r.1.Servers))]),(.s (mA r.2.1)),(vi r.2.2)]):=by
 refine po Tryz.tok 71 Tryz.func23 (by kernel_rfl) rfl rfl rfl ?_
 unfold chain_Cut at h
 refine wE [(0,.a [vi p_c.Id,vi p_c.Ver,.s (mI p_c.Servers)]),(1,.s (mA p_disks)),(2,vi p_server)] Q3 ?_
 refine sg ?_
 refine wT [(3,.b 3 0),(4,.b 4 0),(5,.b 5 0),(6,.b 6 0)] [(3,.box [vi p_c.Id,vi p_c.Ver,.s (mI p_c.Servers)]),(4,.box [.s (mA p_disks)]),(5,.box [vi p_server]),(6,.box [vi (0),vi (0),.v (.slice none 0 0)])] Q4 J4 rfl ?_
 refine sq ?_
 refine bl ?_
 refine sg ?_
 obtain ⟨x1,hx1,h⟩:=bindS h
 refine ⟨_,rfl,_,rfl,?_⟩
 refine CallOk.call (w_slicesN6 hx1) (LeL.refl _) ?_
 refine cn 16 (!x1) rfl h (fun hb h=>?_) fun hb h=>?_
 ·refine sq ?_
  refine Ok.draw2 (m:=2) (late:=[1]) (MD:=⟨[]⟩) (CH:=⟨[]⟩) Tryz.tok Tryz.mixed (by kernel_rfl) ?_
  refine ⟨_,⟨_,rfl,rfl⟩,_,⟨_,rfl,rfl⟩,Q0,?_⟩
  refine ⟨_,rfl,⟨⟨_,rfl,_,rfl,rfl⟩,Q0⟩,?_⟩
  refine wT [(6,.b 6 0),(7,.s (mA p_disks)),(8,vi (1))] [(6,.box [vi p_c.Id,vi p_c.Ver,.s (mI p_c.Servers)])] Q3 J1 rfl ?_
  refine rt ?_
  cases h
  exact ⟨_,rfl,(Fz.t (.cons (Fz.imm rfl) (.cons Fz.s (.cons Fz.v .nil))))⟩
 refine sg ?_
 refine ⟨_,rfl,?_⟩
 refine wT [(3,.b 3 0),(4,.b 4 0),(5,.b 5 0),(6,.b 6 0),(24,vb (decide (p_c.Ver≥1099511627776)))] [(3,.box [vi p_c.Id,vi p_c.Ver,.s (mI p_c.Servers)]),(4,.box [.s (mA p_disks)]),(5,.box [vi p_server]),(6,.box [vi (0),vi (0),.v (.slice none 0 0)])] Q5 J4 rfl ?_
 refine cn 24 (decide (p_c.Ver≥1099511627776)) rfl h (fun hb h=>?_) fun hb h=>?_
 ·refine sq ?_
  refine Ok.draw2 (m:=2) (late:=[1]) (MD:=⟨[]⟩) (CH:=⟨[]⟩) Tryz.tok Tryz.mixed (by kernel_rfl) ?_
  refine ⟨_,⟨_,rfl,rfl⟩,_,⟨_,rfl,rfl⟩,Q0,?_⟩
  refine ⟨_,rfl,⟨⟨_,rfl,_,rfl,rfl⟩,Q0⟩,?_⟩
  refine wT [(6,.b 6 0),(7,.s (mA p_disks)),(8,vi (76))] [(6,.box [vi p_c.Id,vi p_c.Ver,.s (mI p_c.Servers)])] Q3 J1 rfl ?_
  refine rt ?_
  cases h
  exact ⟨_,rfl,(Fz.t (.cons (Fz.imm rfl) (.cons Fz.s (.cons Fz.v .nil))))⟩
 refine sk ?_
 refine sg ?_
 refine ⟨_,rfl,_,rfl,?_⟩
 refine wT [(3,.b 3 0),(4,.b 4 0),(5,.b 5 0),(6,.b 6 0),(9,.b 9 0)] [(3,.box [vi p_c.Id,vi p_c.Ver,.s (mI p_c.Servers)]),(4,.box [.s (mA p_disks)]),(5,.box [vi p_server]),(6,.box [vi (0),vi (0),.v (.slice none 0 0)]),(9,.box [vi p_c.Id,vi p_c.Ver,.s (mI p_c.Servers)])] Q5 ⟨hr,J4⟩ rfl ?_
 refine sg ?_
 obtain ⟨x2,hx2,h⟩:=bindS h
 refine ⟨_,rfl,?_⟩
 refine CallOk.own (D:=33) (wo_slicesN4 hx2) (LeL.refl _) rfl ?_
 obtain ⟨x3,hx3,h⟩:=bindS h
 refine CallOk.gen (m:=[(1000,33),(1001,5),(1002,4)]) (n:=[(999,33)]) (wg_slicesN1 hx3) (.cons (Ln.o rfl) (.cons (Ln.c (.nil) (.cons (Ln.b rfl) (.cons (Ln.b rfl) (.nil)))) (.nil))) ⟨⟨33,_,rfl,rfl,.refl rfl⟩,⟨5,_,rfl,rfl,.box (.cons (Ln.imm rfl) (.nil))⟩,⟨4,_,rfl,rfl,.box (.cons (Ln.imm rfl) (.nil))⟩,Q0⟩ rfl rfl rfl ?_
 refine ⟨_,rfl,?_⟩
 refine sg ?_
 obtain ⟨x4,hx4,h⟩:=bindS h
 refine ⟨_,rfl,_,rfl,?_⟩
 refine CallOk.freeze (id:=33) rfl (CallOk.call (w_chainN12 hx4) (LeL.refl _) ?_)
 refine wT [(3,.b 3 0),(4,.b 4 0),(6,.b 6 0),(9,.b 9 0),(10,.s (mU x4.1)),(11,vb x4.2)] [(3,.box [vi p_c.Id,vi p_c.Ver,.s (mI p_c.Servers)]),(4,.box [.s (mA p_disks)]),(6,.box [vi (0),vi (0),.v (.slice none 0 0)]),(9,.box [vi p_c.Id,vi p_c.Ver,.s (mI x3)])] Q6 J4 rfl ?_
 refine sq ?_
 refine sg ?_
 refine cn 44 (!x4.2) rfl h (fun hb h=>?_) fun hb h=>?_
 ·refine sq ?_
  refine Ok.draw2 (m:=2) (late:=[1]) (MD:=⟨[]⟩) (CH:=⟨[]⟩) Tryz.tok Tryz.mixed (by kernel_rfl) ?_
  refine ⟨_,⟨_,rfl,rfl⟩,_,⟨_,rfl,rfl⟩,Q0,?_⟩
  refine ⟨_,rfl,⟨⟨_,rfl,_,rfl,rfl⟩,Q0⟩,?_⟩
  refine wT [(6,.b 6 0),(7,.s (mA p_disks)),(8,vi (260))] [(6,.box [vi p_c.Id,vi p_c.Ver,.s (mI p_c.Servers)])] Q3 J1 rfl ?_
  refine rt ?_
  cases h
  exact ⟨_,rfl,(Fz.t (.cons (Fz.imm rfl) (.cons Fz.s (.cons Fz.v .nil))))⟩
 refine sk ?_
 refine sg ?_
 obtain ⟨hc1,h⟩:=chk_some h
 refine ⟨_,rfl,(Or.inl ⟨hc1,_,rfl,?_⟩)⟩
 refine wT [(4,.b 4 0),(6,.b 6 0),(9,.b 9 0),(10,.s (mU x4.1))] [(4,.box [.s (mA p_disks)]),(6,.box [vi (0),vi (0),.v (.slice none 0 0)]),(9,.box [vi p_c.Id,vi (p_c.Ver+1),.s (mI x3)])] Q4 J3 rfl ?_
 refine sg ?_
 obtain ⟨x5,hx5,h⟩:=bindS h
 refine ⟨_,rfl,_,rfl,?_⟩
 refine CallOk.gen (m:=[]) (n:=[(10,999),(8,998),(3,997),(5,996)]) (wg_chainN4 hx5) (.cons (Ln.imm rfl) (.cons (Ln.imm rfl) (.cons (Ln.imm rfl) (.nil)))) Q0 rfl rfl rfl ?_
 obtain ⟨v1,hv1,h⟩:=bindS h
 refine Ok.seqw ⟨Cat.tab [(6,.b 6 0),(9,.b 9 0),(12,.o 999)],[(6,.box [vi (0),vi (0),.v (.slice none 0 0)]),(9,.box [vi p_c.Id,vi (p_c.Ver+1),.s (mI x3)]),(999,.own 29 3 (mA v1))]⟩ ?_ ?_
 ·refine sg ?_
  refine ⟨_,rfl,_,List.length_map _,fun _=>?_⟩
  refine wT [(6,.b 6 0),(9,.b 9 0),(12,.o 999),(13,.c (.func 59) [] [.b 998 0,.b 997 0,.b 996 0]),(59,.s (mI x3)),(60,vi (x3.length:Int)),(61,vi (0))] [(6,.box [vi (0),vi (0),.v (.slice none 0 0)]),(9,.box [vi p_c.Id,vi (p_c.Ver+1),.s (mI x3)]),(999,.own 29 3 (mA x5)),(998,.box [.o 999]),(997,.box [vi ((⟨p_c.Id,p_c.Ver+1,x3⟩:api_Chain).Id),vi ((⟨p_c.Id,p_c.Ver+1,x3⟩:api_Chain).Ver),.s (mI ((⟨p_c.Id,p_c.Ver+1,x3⟩:api_Chain).Servers))]),(996,.box [.s (mU x4.1)])] Q7 ⟨hr,hr,J4⟩ rfl ?_
  refine bl ?_
  refine Ok.loop (fun (s1:Int×(List api_Disk))=>⟨Cat.tab [(6,.b 6 0),(9,.b 9 0),(12,.o 999),(13,.c (.func 59) [] [.b 998 0,.b 997 0,.b 996 0]),(59,.s (mI x3)),(60,vi (x3.length:Int)),(61,vi s1.1)],[(6,.box [vi (0),vi (0),.v (.slice none 0 0)]),(9,.box [vi p_c.Id,vi (p_c.Ver+1),.s (mI x3)]),(999,.own 29 3 (mA s1.2)),(998,.box [.o 999]),(997,.box [vi ((⟨p_c.Id,p_c.Ver+1,x3⟩:api_Chain).Id),vi ((⟨p_c.Id,p_c.Ver+1,x3⟩:api_Chain).Ver),.s (mI ((⟨p_c.Id,p_c.Ver+1,x3⟩:api_Chain).Servers))]),(996,.box [.s (mU x4.1)])]⟩) (chainN2 x3 p_c x4) (s0:=(0,x5)) hv1 (wt Q7 ⟨⟨_,rfl,.refl _⟩,⟨_,rfl,.refl _⟩,⟨_,rfl,.refl _⟩,⟨_,rfl,.refl _⟩,⟨_,rfl,.refl _⟩,⟨_,rfl,.refl _⟩,Q0⟩ rfl) ?_
  intro s1 y1 hB1 hy1
  unfold chainN2 at hB1
  refine sg ?_
  refine sq ?_
  refine cn 62 (decide (s1.1 < (x3.length:Int))) rfl hB1 (fun hb hB1=>?_) fun hb hB1=>?_
  ·refine sk ?_
   refine sq ?_
   refine bl ?_
   refine sg ?_
   obtain ⟨x6,hx6,hB1⟩:=bindS hB1
   refine ⟨_,idx_nat hx6,_,idx_row hx6,_,rfl,?_⟩
   refine wT [(6,.b 6 0),(9,.b 9 0),(12,.o 999),(13,.c (.func 59) [] [.b 998 0,.b 997 0,.b 996 0]),(15,vi x6),(59,.s (mI x3)),(60,vi (x3.length:Int)),(61,vi s1.1)] [(6,.box [vi (0),vi (0),.v (.slice none 0 0)]),(9,.box [vi p_c.Id,vi (p_c.Ver+1),.s (mI x3)]),(999,.own 29 3 (mA s1.2)),(998,.box [.o 999]),(997,.box [vi ((⟨p_c.Id,p_c.Ver+1,x3⟩:api_Chain).Id),vi ((⟨p_c.Id,p_c.Ver+1,x3⟩:api_Chain).Ver),.s (mI ((⟨p_c.Id,p_c.Ver+1,x3⟩:api_Chain).Servers))]),(996,.box [.s (mU x4.1)])] Q8 ⟨hr,hr,J4⟩ rfl ?_
   refine rg ?_
   obtain ⟨x7,hx7,hB1⟩:=bindS hB1
   refine CallOk.gen (m:=[(1000,998),(1001,999),(1002,997),(1003,996)]) (n:=[]) (wg_chainN5 hx7) (.cons (Ln.imm rfl) (.cons (Ln.b rfl) (.cons (Ln.b rfl) (.cons (Ln.b rfl) (.nil))))) ⟨⟨998,_,rfl,rfl,.box (.cons (Ln.o rfl) (.nil))⟩,⟨999,_,rfl,rfl,.refl rfl⟩,⟨997,_,rfl,rfl,.box (.cons (Ln.imm rfl) (.cons (Ln.imm rfl) (.cons (Ln.imm rfl) (.nil))))⟩,⟨996,_,rfl,rfl,.box (.cons (Ln.imm rfl) (.nil))⟩,Q0⟩ rfl rfl rfl ?_
   refine rg ?_
   obtain ⟨hc2,hB1⟩:=chk_some hB1
   refine (Or.inl ⟨hc2,?_⟩)
   exact ⟨_,sj hB1,wt Q7 ⟨hr,hr,J4⟩ rfl⟩
  refine xt ?_
  have hB1:=out_ret hB1 hy1
  cases hB1
  exact wt Q3 J3 rfl
 refine sg ?_
 refine ⟨_,rfl,_,rfl,?_⟩
 refine wT [(6,.b 6 0),(7,.o 999),(8,vi (0))] [(6,.box [vi p_c.Id,vi (p_c.Ver+1),.s (mI x3)]),(999,.own 29 3 (mA v1))] Q3 J2 rfl ?_
 refine rt ?_
 cases h
 exact ⟨_,rfl,(Fz.t (.cons (Fz.imm rfl) (.cons (Fz.o rfl) (.cons Fz.v .nil))))⟩
theorem w_chainN6 [Off] {p_c} {p_disks} {p_server} {r} (h:chain_Mend p_c p_disks p_server=some r):Pure Tryz.prog 25 [(.a [(vi p_c.Id),(vi p_c.Ver),(.s (mI p_c.Servers))]),(.s (mA p_disks)),(vi p_server)] (.t [(.a [(vi r.1.Id),(vi r.1.Ver),(.s (mI r.1.Servers))]),(.s (mA r.2.1)),(vi r.2.2)]):=by
 refine po Tryz.tok 75 Tryz.func25 (by kernel_rfl) rfl rfl rfl ?_
 unfold chain_Mend at h
 refine wE [(0,.a [vi p_c.Id,vi p_c.Ver,.s (mI p_c.Servers)]),(1,.s (mA p_disks)),(2,vi p_server)] Q3 ?_
 refine sg ?_
 refine wT [(1,.s (mA p_disks)),(2,vi p_server),(3,.b 3 0),(6,.b 6 0)] [(3,.box [vi p_c.Id,vi p_c.Ver,.s (mI p_c.Servers)]),(6,.box [vi (0),vi (0),.v (.slice none 0 0)])] Q4 J2 rfl ?_
 refine sq ?_
 refine bl ?_
 obtain ⟨v1,hv1,h⟩:=bindS h
 refine Ok.seqw ⟨Cat.tab [(1,.s (mA p_disks)),(2,vi p_server),(3,.b 3 0),(6,.b 6 0),(13,vb v1)],[(3,.box [vi p_c.Id,vi p_c.Ver,.s (mI p_c.Servers)]),(6,.box [vi (0),vi (0),.v (.slice none 0 0)])]⟩ ?_ ?_
 ·refine rg ?_
  obtain ⟨c1,hg1,hv1⟩:=bindS hv1
  refine Br.itf hg1 (fun hb hg1=>?_) fun hb hg1=>?_
  ·cases hg1
   obtain ⟨c2,hg2,hv1⟩:=bindS hv1
   replace hg2:=iteT hg2
   cases hg2
   cases hv1
   exact wt Q5 J2 rfl
  refine ⟨_,List.length_map _,fun _=>?_⟩
  cases hg1
  obtain ⟨c2,hg3,hv1⟩:=bindS hv1
  refine Br.itf hg3 (fun hb hg3=>?_) fun hb hg3=>?_
  ·cases hg3
   cases hv1
   exact wt Q5 J2 rfl
  obtain ⟨x1,hx1,hg3⟩:=bindS hg3
  refine ⟨_,rfl,?_⟩
  refine CallOk.call (w_slicesN6 hx1) (LeL.refl _) ?_
  cases hg3
  cases hv1
  exact wt Q5 J2 rfl
 refine cn 13 (v1) rfl h (fun hb h=>?_) fun hb h=>?_
 ·refine sg ?_
  refine ⟨_,rfl,_,rfl,?_⟩
  refine wT [(6,.b 6 0),(7,.s (mA p_disks)),(8,vi (1))] [(6,.box [vi p_c.Id,vi p_c.Ver,.s (mI p_c.Servers)])] Q3 J1 rfl ?_
  refine rt ?_
  cases h
  exact ⟨_,rfl,(Fz.t (.cons (Fz.imm rfl) (.cons Fz.s (.cons Fz.v .nil))))⟩
 refine sg ?_
 refine ⟨_,rfl,_,List.length_map _,fun _=>?_⟩
 refine wT [(1,.s (mA p_disks)),(2,vi p_server),(3,.b 3 0),(6,.b 6 0),(30,vb (decide ((p_c.Servers.length:Int)≥5)))] [(3,.box [vi p_c.Id,vi p_c.Ver,.s (mI p_c.Servers)]),(6,.box [vi (0),vi (0),.v (.slice none 0 0)])] Q5 J2 rfl ?_
 refine cn 30 (decide ((p_c.Servers.length:Int)≥5)) rfl h (fun hb h=>?_) fun hb h=>?_
 ·refine sg ?_
  refine ⟨_,rfl,_,rfl,?_⟩
  refine wT [(6,.b 6 0),(7,.s (mA p_disks)),(8,vi (76))] [(6,.box [vi p_c.Id,vi p_c.Ver,.s (mI p_c.Servers)])] Q3 J1 rfl ?_
  refine rt ?_
  cases h
  exact ⟨_,rfl,(Fz.t (.cons (Fz.imm rfl) (.cons Fz.s (.cons Fz.v .nil))))⟩
 refine sg ?_
 obtain ⟨x2,hx2,h⟩:=bindS h
 refine ⟨_,idx_nat hx2,_,idx_row hx2,_,rfl,?_⟩
 refine wT [(1,.s (mA p_disks)),(2,vi p_server),(3,.b 3 0),(6,.b 6 0),(37,vb x2.Down)] [(3,.box [vi p_c.Id,vi p_c.Ver,.s (mI p_c.Servers)]),(6,.box [vi (0),vi (0),.v (.slice none 0 0)])] Q5 J2 rfl ?_
 refine cn 37 (x2.Down) rfl h (fun hb h=>?_) fun hb h=>?_
 ·refine sg ?_
  refine ⟨_,rfl,_,rfl,?_⟩
  refine wT [(6,.b 6 0),(7,.s (mA p_disks)),(8,vi (40))] [(6,.box [vi p_c.Id,vi p_c.Ver,.s (mI p_c.Servers)])] Q3 J1 rfl ?_
  refine rt ?_
  cases h
  exact ⟨_,rfl,(Fz.t (.cons (Fz.imm rfl) (.cons Fz.s (.cons Fz.v .nil))))⟩
 refine sk ?_
 refine sg ?_
 obtain ⟨x3,hx3,h⟩:=bindS h
 refine ⟨_,rfl,?_⟩
 refine CallOk.call (w_chainN9 hx3) (LeL.refl _) ?_
 refine wT [(1,.s (mA p_disks)),(2,vi p_server),(3,.b 3 0),(6,.b 6 0),(9,.s (mU x3.1)),(10,vi x3.2)] [(3,.box [vi p_c.Id,vi p_c.Ver,.s (mI p_c.Servers)]),(6,.box [vi (0),vi (0),.v (.slice none 0 0)])] Q6 J2 rfl ?_
 refine sq ?_
 refine sg ?_
 refine cn 52 (x3.2 != 0) rfl h (fun hb h=>?_) fun hb h=>?_
 ·refine sg ?_
  refine ⟨_,rfl,_,rfl,?_⟩
  refine wT [(6,.b 6 0),(7,.s (mA p_disks)),(8,vi x3.2)] [(6,.box [vi p_c.Id,vi p_c.Ver,.s (mI p_c.Servers)])] Q3 J1 rfl ?_
  refine rt ?_
  cases h
  exact ⟨_,rfl,(Fz.t (.cons (Fz.imm rfl) (.cons Fz.s (.cons Fz.v .nil))))⟩
 refine sk ?_
 refine sg ?_
 obtain ⟨x4,hx4,h⟩:=bindS h
 refine ⟨_,rfl,?_⟩
 refine CallOk.gen (m:=[]) (n:=[(10,999),(8,998),(3,997),(5,996)]) (wg_chainN4 hx4) (.cons (Ln.imm rfl) (.cons (Ln.imm rfl) (.cons (Ln.imm rfl) (.nil)))) Q0 rfl rfl rfl ?_
 refine wT [(2,vi p_server),(3,.b 3 0),(6,.b 6 0),(11,.o 999),(12,.c (.func 59) [] [.b 998 0,.b 997 0,.b 996 0])] [(3,.box [vi p_c.Id,vi p_c.Ver,.s (mI p_c.Servers)]),(6,.box [vi (0),vi (0),.v (.slice none 0 0)]),(999,.own 29 3 (mA x4)),(998,.box [.o 999]),(997,.box [vi p_c.Id,vi p_c.Ver,.s (mI p_c.Servers)]),(996,.box [.s (mU x3.1)])] Q5 ⟨hr,hr,J4⟩ rfl ?_
 refine sg ?_
 obtain ⟨x5,hx5,h⟩:=bindS h
 refine CallOk.gen (m:=[(1000,998),(1001,999),(1002,997),(1003,996)]) (n:=[]) (wg_chainN5 hx5) (.cons (Ln.imm rfl) (.cons (Ln.b rfl) (.cons (Ln.b rfl) (.cons (Ln.b rfl) (.nil))))) ⟨⟨998,_,rfl,rfl,.box (.cons (Ln.o rfl) (.nil))⟩,⟨999,_,rfl,rfl,.refl rfl⟩,⟨997,_,rfl,rfl,.box (.cons (Ln.imm rfl) (.cons (Ln.imm rfl) (.cons (Ln.imm rfl) (.nil))))⟩,⟨996,_,rfl,rfl,.box (.cons (Ln.imm rfl) (.nil))⟩,Q0⟩ rfl rfl rfl ?_
 refine wT [(2,vi p_server),(3,.b 3 0),(6,.b 6 0),(11,.o 999)] [(3,.box [vi p_c.Id,vi p_c.Ver,.s (mI p_c.Servers)]),(6,.box [vi (0),vi (0),.v (.slice none 0 0)]),(999,.own 29 3 (mA x5))] Q4 J3 rfl ?_
 refine sg ?_
 obtain ⟨x6,hx6,h⟩:=bindS h
 refine ⟨_,rfl,?_⟩
 refine CallOk.own (D:=68) (wo_slicesN4 hx6) (LeL.refl _) rfl ?_
 obtain ⟨hc1,h⟩:=chk_some h
 refine Or.inl ⟨rowsLen_map (f:=Go.Cat.encI) (n:=1) (fun _=>rfl) ([p_server]),app_b2 (f:=Go.Cat.encI) (l:=x6) (l':=[p_server]) hc1,_,(List.map_append (f:=Go.Cat.encI) (l₁:=x6) (l₂:=[p_server])).symm,_,rfl,?_⟩
 refine wT [(3,.b 3 0),(6,.b 6 0),(11,.o 999)] [(3,.box [vi p_c.Id,vi p_c.Ver,.o 68]),(68,.own 3 1 (mI (x6++[p_server]))),(6,.box [vi (0),vi (0),.v (.slice none 0 0)]),(999,.own 29 3 (mA x5))] Q3 J4 rfl ?_
 refine sg ?_
 refine ⟨_,rfl,_,rfl,?_⟩
 refine wT [(6,.b 6 0),(7,.o 999),(8,vi (0))] [(6,.box [vi p_c.Id,vi p_c.Ver,.o 68]),(68,.own 3 1 (mI (x6++[p_server]))),(999,.own 29 3 (mA x5))] Q3 J3 rfl ?_
 refine rt ?_
 cases h
 exact ⟨_,rfl,(Fz.t (.cons (Fz.a (.cons Fz.v (.cons Fz.v (.cons (Fz.o rfl) .nil)))) (.cons (Fz.o rfl) (.cons Fz.v .nil))))⟩
theorem wo_law26N2 {p_l} {p_at} {p_d} {r} (h:law26_with p_l p_at p_d=some r):POwn Tryz.prog 36 [(.s (mA p_l)),(vi p_at),(.a [(.s (mB p_d.Synced)),(.s (mB p_d.Loose)),(vb p_d.Down)])] 29 3 (mA r):=by
 refine pw Tryz.tok 30 Tryz.func36 (by kernel_rfl) rfl rfl rfl ?_
 unfold law26_with at h
 refine wE [(0,.s (mA p_l)),(1,vi p_at),(2,.a [.s (mB p_d.Synced),.s (mB p_d.Loose),vb p_d.Down])] Q3 ?_
 refine sg ?_
 refine wT [(0,.s (mA p_l)),(1,vi p_at),(5,.b 5 0)] [(5,.box [.s (mB p_d.Synced),.s (mB p_d.Loose),vb p_d.Down])] Q3 J1 rfl ?_
 refine sg ?_
 refine wT [(0,.s (mA p_l)),(1,vi p_at),(5,.b 5 0),(7,.v (.slice none 0 0))] [(5,.box [.s (mB p_d.Synced),.s (mB p_d.Loose),vb p_d.Down])] Q4 J1 rfl ?_
 obtain ⟨v1,hv1,h⟩:=bindS h
 refine Ok.seqw ⟨Cat.tab [(7,.o 21)],[(21,.own 29 3 (mA v1))]⟩ ?_ ?_
 ·refine sg ?_
  refine wT [(0,.s (mA p_l)),(1,vi p_at),(5,.b 5 0),(7,.v (.slice none 0 0)),(8,vi (0))] [(5,.box [.s (mB p_d.Synced),.s (mB p_d.Loose),vb p_d.Down])] Q5 J1 rfl ?_
  refine bl ?_
  refine Ok.loop (fun (s1:Int×(List api_Disk))=>⟨Cat.tab [(0,.s (mA p_l)),(1,vi p_at),(5,.b 5 0),(7,.o 21),(8,vi s1.1)],[(5,.box [.s (mB p_d.Synced),.s (mB p_d.Loose),vb p_d.Down]),(21,.own 29 3 (mA s1.2))]⟩) (law26N8 p_l p_at p_d) (s0:=(0,[])) hv1 ((Wk.own0 (t:=7) (id:=21) (E:=29) (K:=3) rfl rfl).trans (wt Q5 ⟨⟨_,rfl,.refl _⟩,⟨_,rfl,.refl _⟩,Q0⟩ rfl)) ?_
  intro s1 y1 hB1 hy1
  unfold law26N8 at hB1
  refine sq ?_
  refine sg ?_
  refine ⟨_,List.length_map _,fun _=>?_⟩
  refine wT [(0,.s (mA p_l)),(1,vi p_at),(5,.b 5 0),(7,.o 21),(8,vi s1.1),(12,vb (decide (s1.1 < (p_l.length:Int))))] [(5,.box [.s (mB p_d.Synced),.s (mB p_d.Loose),vb p_d.Down]),(21,.own 29 3 (mA s1.2))] Q6 J2 rfl ?_
  refine cn 12 (decide (s1.1 < (p_l.length:Int))) rfl hB1 (fun hb hB1=>?_) fun hb hB1=>?_
  ·refine sk ?_
   obtain ⟨v2,hv2,hB1⟩:=bindS hB1
   refine Ok.seqw ⟨Cat.tab [(0,.s (mA p_l)),(1,vi p_at),(5,.b 5 0),(7,.o 21),(8,vi s1.1)],[(5,.box [.s (mB p_d.Synced),.s (mB p_d.Loose),vb p_d.Down]),(21,.own 29 3 (mA v2))]⟩ ?_ ?_
   ·refine bl ?_
    refine sg ?_
    refine wT [(0,.s (mA p_l)),(1,vi p_at),(5,.b 5 0),(7,.o 21),(8,vi s1.1),(17,vb (s1.1 == p_at))] [(5,.box [.s (mB p_d.Synced),.s (mB p_d.Loose),vb p_d.Down]),(21,.own 29 3 (mA s1.2))] Q6 J2 rfl ?_
    refine cn 17 (s1.1 == p_at) rfl hv2 (fun hb hv2=>?_) fun hb hv2=>?_
    ·refine rg ?_
     obtain ⟨hc1,hv2⟩:=chk_some hv2
     refine ⟨_,rfl,Or.inl ⟨rowsLen_map (f:=c_api_Disk) (n:=3) (fun _=>rfl) ([p_d]),app_b2 (f:=c_api_Disk) (l:=s1.2) (l':=[p_d]) hc1,_,(List.map_append (f:=c_api_Disk) (l₁:=s1.2) (l₂:=[p_d])).symm,?_⟩⟩
     cases hv2
     exact wt Q5 J2 rfl
    refine rg ?_
    obtain ⟨x1,hx1,hv2⟩:=bindS hv2
    obtain ⟨hc2,hv2⟩:=chk_some hv2
    refine ⟨_,idx_nat hx1,_,idx_row hx1,_,rfl,Or.inl ⟨rowsLen_map (f:=c_api_Disk) (n:=3) (fun _=>rfl) ([x1]),app_b2 (f:=c_api_Disk) (l:=s1.2) (l':=[x1]) hc2,_,(List.map_append (f:=c_api_Disk) (l₁:=s1.2) (l₂:=[x1])).symm,?_⟩⟩
    cases hv2
    exact wt Q5 J2 rfl
   refine rg ?_
   obtain ⟨hc3,hB1⟩:=chk_some hB1
   refine (Or.inl ⟨hc3,?_⟩)
   exact ⟨_,sj hB1,wt Q5 J2 rfl⟩
  refine xt ?_
  have hB1:=out_ret hB1 hy1
  cases hB1
  exact wt Q1 J1 rfl
 refine sg ?_
 refine wT [(6,.o 21)] [(21,.own 29 3 (mA v1))] Q1 J1 rfl ?_
 refine rt ?_
 cases h
 exact (.inr ⟨_,rfl,rfl⟩)
theorem w_law26N6 {p_l} {p_at} {p_d} {r} (h:law26_with p_l p_at p_d=some r):Pure Tryz.prog 36 [(.s (mA p_l)),(vi p_at),(.a [(.s (mB p_d.Synced)),(.s (mB p_d.Loose)),(vb p_d.Down)])] (.s (mA r)):=(wo_law26N2 h).pure
theorem w_chainN8 {p_s} {p_a1_0} {r} (h:chainN15 p_s p_a1_0=some r):Pure Tryz.prog 56 [(vi p_s),(.p [(.s (mA p_a1_0))])] (vb r):=by
 refine po Tryz.tok 9 Tryz.func56 (by kernel_rfl) rfl rfl rfl ?_
 unfold chainN15 at h
 refine wE [(0,vi p_s),(1,.p [.s (mA p_a1_0)])] Q2 ?_
 refine sg ?_
 refine wE [(0,vi p_s),(1,.p [.s (mA p_a1_0)])] Q2 ?_
 refine sg ?_
 obtain ⟨x1,hx1,h⟩:=bindS h
 refine ⟨_,rfl,_,idx_nat hx1,_,idx_row hx1,_,rfl,?_⟩
 refine wE [(3,vb x1.Down)] Q1 ?_
 refine rt ?_
 cases h
 exact Fz.v
theorem w_slicesN11 {p_s} {p_f_c0_0} {r} (h:slicesN68 p_s p_f_c0_0=some r):Pure Tryz.prog 57 [(.s (mI p_s)),(.c (.func 56) [] [(.p [(.s (mA p_f_c0_0))])])] (vi r):=by
 refine po Tryz.tok 19 Tryz.func57 (by kernel_rfl) rfl rfl rfl ?_
 unfold slicesN68 at h
 refine wE [(0,.s (mI p_s)),(1,.c (.func 56) [] [.p [.s (mA p_f_c0_0)]])] Q2 ?_
 refine sg ?_
 refine wE [(0,.s (mI p_s)),(1,.c (.func 56) [] [.p [.s (mA p_f_c0_0)]])] Q2 ?_
 refine Ok.seqj (fun v1=>⟨Cat.tab [],[]⟩) (fun v1=>slicesN72 v1=some r) ?_ ?_
 ·refine sg ?_
  refine ⟨_,List.length_map _,fun _=>?_⟩
  refine wE [(0,.s (mI p_s)),(1,.c (.func 56) [] [.p [.s (mA p_f_c0_0)]]),(7,vi (p_s.length:Int)),(8,vi (0))] Q4 ?_
  refine bl ?_
  refine Ok.loop (fun (s1:Int)=>⟨Cat.tab [(0,.s (mI p_s)),(1,.c (.func 56) [] [.p [.s (mA p_f_c0_0)]]),(7,vi (p_s.length:Int)),(8,vi s1)],[]⟩) (slicesN70 p_s p_f_c0_0) (s0:=0) h (wt Q4 Q0 rfl) ?_
  intro s1 y1 hB1 hy1
  unfold slicesN70 at hB1
  refine sg ?_
  refine wE [(0,.s (mI p_s)),(1,.c (.func 56) [] [.p [.s (mA p_f_c0_0)]]),(7,vi (p_s.length:Int)),(8,vi s1),(9,vb (decide (s1 < (p_s.length:Int))))] Q5 ?_
  refine sq ?_
  refine cn 9 (decide (s1 < (p_s.length:Int))) rfl hB1 (fun hb hB1=>?_) fun hb hB1=>?_
  ·refine sk ?_
   refine sq ?_
   refine bl ?_
   refine sg ?_
   refine wE [(0,.s (mI p_s)),(1,.c (.func 56) [] [.p [.s (mA p_f_c0_0)]]),(5,vi s1),(7,vi (p_s.length:Int)),(8,vi s1)] Q5 ?_
   refine sg ?_
   obtain ⟨x1,hx1,hB1⟩:=bindS hB1
   obtain ⟨x2,hx2,hB1⟩:=bindS hB1
   refine ⟨_,idx_nat hx1,_,idx_row hx1,_,rfl,?_⟩
   refine CallOk.call (w_chainN8 hx2) (LeL.refl _) ?_
   refine wE [(0,.s (mI p_s)),(1,.c (.func 56) [] [.p [.s (mA p_f_c0_0)]]),(5,vi s1),(7,vi (p_s.length:Int)),(8,vi s1),(16,vb x2)] Q6 ?_
   refine cn 16 (x2) rfl hB1 (fun hb hB1=>?_) fun hb hB1=>?_
   ·refine sg ?_
    refine wE [(4,vi s1)] Q1 ?_
    refine rt ?_
    have hB1:=out_ret hB1 hy1
    cases hB1
    exact Fz.v
   refine sk ?_
   refine rg ?_
   obtain ⟨hc1,hB1⟩:=chk_some hB1
   refine (Or.inl ⟨hc1,?_⟩)
   exact ⟨_,sj hB1,wt Q4 Q0 rfl⟩
  refine xt ?_
  have hB1:=out_ret hB1 hy1
  exact ⟨_,hB1,wt Q0 Q0 rfl⟩
 intro v1 h
 unfold slicesN72 at h
 refine sg ?_
 refine wE [(4,vi (-1))] Q1 ?_
 refine rt ?_
 cases h
 exact Fz.v
theorem w_slicesN5 {p_s} {p_f_c0} {r} (h:slicesN31 p_s p_f_c0=some r):Pure Tryz.prog 38 [(.s (mI p_s)),(.c (.func 56) [] [(.p [(.s (mA p_f_c0))])])] (vb r):=by
 refine po Tryz.tok 9 Tryz.func38 (by kernel_rfl) rfl rfl rfl ?_
 unfold slicesN31 at h
 refine wE [(0,.s (mI p_s)),(1,.c (.func 56) [] [.p [.s (mA p_f_c0)]])] Q2 ?_
 refine sg ?_
 refine wE [(0,.s (mI p_s)),(1,.c (.func 56) [] [.p [.s (mA p_f_c0)]])] Q2 ?_
 refine sg ?_
 obtain ⟨x1,hx1,h⟩:=bindS h
 refine CallOk.call (w_slicesN11 hx1) (LeL.refl _) ?_
 refine wE [(4,vb (decide (x1≥0)))] Q1 ?_
 refine rt ?_
 cases h
 exact Fz.v
theorem wg_chainN2 {l:Nat} {p_a1:Int} {p_a2:List UInt8} {p_b1:api_Chain} {p_b2:List api_Disk} {p_b3:List api_Disk} {p_b4:Int} {p_b5:Int} {p_b6:List UInt8} {p_b7:Bool} {p_b8:Bool} {r:LS×(List api_Disk)×Int×(List UInt8)×Bool×Bool} (h:chainN16 p_a1 p_a2 p_b1 p_b2 p_b3 p_b4 p_b5 p_b6 p_b7 p_b8=some r):CallOk Tryz.prog (.y l) [(vi p_a1),(.s (mU p_a2))] ⟨noSlots,(1000,.lp l .rdy Tryz.rf27_0 [(3,(.b 1001 0)),(4,(.b 1002 0)),(6,(.b 1003 0)),(7,(.b 1004 0)),(8,(.b 1005 0)),(9,(.b 1006 0)),(10,(.b 1007 0)),(11,(.b 1008 0))])::[(1001,.box [(vi p_b1.Id),(vi p_b1.Ver),(.s (mI p_b1.Servers))]),(1002,.box [(.s (mA p_b2))]),(1003,.box [(.s (mA p_b3))]),(1004,.box [(vi p_b4)]),(1005,.box [(vi p_b5)]),(1006,.box [(.s (mU p_b6))]),(1007,.box [(vb p_b7)]),(1008,.box [(vb p_b8)])]⟩ fun x s=>x=.v (.bool (LS.isR r.1))∧s.H=(1000,.lp l r.1 Tryz.rf27_0 [(3,(.b 1001 0)),(4,(.b 1002 0)),(6,(.b 1003 0)),(7,(.b 1004 0)),(8,(.b 1005 0)),(9,(.b 1006 0)),(10,(.b 1007 0)),(11,(.b 1008 0))])::[(1001,.box [(vi p_b1.Id),(vi p_b1.Ver),(.s (mI p_b1.Servers))]),(1002,.box [(.s (mA p_b2))]),(1003,.box [(.s (mA r.2.1))]),(1004,.box [(vi r.2.2.1)]),(1005,.box [(vi p_b5)]),(1006,.box [(.s (mU r.2.2.2.1))]),(1007,.box [(vb r.2.2.2.2.1)]),(1008,.box [(vb r.2.2.2.2.2)])]:=by
 letI:Rnds:=Rnds.yes
 refine yield_of_ok (e0:=r.1) (H1:=[(1001,.box [vi p_b1.Id,vi p_b1.Ver,.s (mI p_b1.Servers)]),(1002,.box [.s (mA p_b2)]),(1003,.box [.s (mA r.2.1)]),(1004,.box [vi r.2.2.1]),(1005,.box [vi p_b5]),(1006,.box [.s (mU r.2.2.2.1)]),(1007,.box [vb r.2.2.2.2.1]),(1008,.box [vb r.2.2.2.2.2])]) (by kernel_rfl) (by kernel_rfl) rfl rfl rfl ?_
 unfold chainN16 at h
 refine wT [(3,.b 1001 0),(4,.b 1002 0),(6,.b 1003 0),(7,.b 1004 0),(8,.b 1005 0),(9,.b 1006 0),(10,.b 1007 0),(11,.b 1008 0),(34,vi p_a1),(35,.s (mU p_a2))] [(1001,.box [vi p_b1.Id,vi p_b1.Ver,.s (mI p_b1.Servers)]),(1002,.box [.s (mA p_b2)]),(1003,.box [.s (mA p_b3)]),(1004,.box [vi p_b4]),(1005,.box [vi p_b5]),(1006,.box [.s (mU p_b6)]),(1007,.box [vb p_b7]),(1008,.box [vb p_b8])] ⟨lr,lr,Q8⟩ ⟨hr,hr,hr,hr,J4⟩ rfl ?_
 refine sg ?_
 refine rg ?_
 refine wT [(3,.b 1001 0),(4,.b 1002 0),(6,.b 1003 0),(7,.b 1004 0),(8,.b 1005 0),(9,.b 1006 0),(10,.b 1007 0),(11,.b 1008 0),(12,vi p_a1),(13,.s (mU p_a2))] [(1001,.box [vi p_b1.Id,vi p_b1.Ver,.s (mI p_b1.Servers)]),(1002,.box [.s (mA p_b2)]),(1003,.box [.s (mA p_b3)]),(1004,.box [vi p_b4]),(1005,.box [vi p_b5]),(1006,.box [.s (mU p_b6)]),(1007,.box [vb p_b7]),(1008,.box [vb p_b8])] ⟨lr,lr,Q8⟩ ⟨hr,hr,hr,hr,J4⟩ rfl ?_
 refine bl ?_
 refine sg ?_
 obtain ⟨x1,hx1,h⟩:=bindS h
 refine ⟨_,rfl,?_⟩
 refine CallOk.call (w_slicesN12 hx1) (LeL.refl _) ?_
 refine sq ?_
 refine sg ?_
 refine ⟨_,rfl,?_⟩
 refine wT [(4,.b 1002 0),(6,.b 1003 0),(7,.b 1004 0),(8,.b 1005 0),(9,.b 1006 0),(10,.b 1007 0),(11,.b 1008 0),(13,.s (mU p_a2)),(14,vi x1),(42,vb (x1 == p_b5))] [(1002,.box [.s (mA p_b2)]),(1003,.box [.s (mA p_b3)]),(1004,.box [vi p_b4]),(1005,.box [vi p_b5]),(1006,.box [.s (mU p_b6)]),(1007,.box [vb p_b7]),(1008,.box [vb p_b8]),(1001,.box [vi p_b1.Id,vi p_b1.Ver,.s (mI p_b1.Servers)])] ⟨lr,lr,Q8⟩ ⟨hr,hr,hr,hr,J4⟩ rfl ?_
 refine cn 42 (x1 == p_b5) rfl h (fun hb h=>?_) fun hb h=>?_
 ·refine sg ?_
  refine ⟨_,rfl,_,rfl,_,rfl,?_⟩
  refine wT [] [(1001,.box [vi p_b1.Id,vi p_b1.Ver,.s (mI p_b1.Servers)]),(1002,.box [.s (mA p_b2)]),(1003,.box [.s (mA p_b2)]),(1004,.box [vi (0)]),(1005,.box [vi p_b5]),(1006,.box [.s (mU p_b6)]),(1007,.box [vb p_b7]),(1008,.box [vb p_b8])] Q0 ⟨hr,hr,hr,hr,J4⟩ rfl ?_
  refine rt ?_
  cases h
  exact ⟨rfl,wt Q0 ⟨⟨_,rfl,.refl _⟩,⟨_,rfl,.refl _⟩,⟨_,rfl,.refl _⟩,⟨_,rfl,.refl _⟩,⟨_,rfl,.refl _⟩,⟨_,rfl,.refl _⟩,⟨_,rfl,.refl _⟩,⟨_,rfl,.refl _⟩,Q0⟩ rfl⟩
 refine sk ?_
 refine sg ?_
 refine ⟨_,rfl,?_⟩
 refine wT [(8,.b 1005 0),(9,.b 1006 0),(10,.b 1007 0),(11,.b 1008 0),(13,.s (mU p_a2)),(14,vi x1),(45,vb (!p_b8))] [(1005,.box [vi p_b5]),(1006,.box [.s (mU p_b6)]),(1007,.box [vb p_b7]),(1008,.box [vb p_b8]),(1001,.box [vi p_b1.Id,vi p_b1.Ver,.s (mI p_b1.Servers)]),(1002,.box [.s (mA p_b2)]),(1003,.box [.s (mA p_b3)]),(1004,.box [vi p_b4])] Q7 ⟨hr,hr,hr,hr,J4⟩ rfl ?_
 refine cn 45 (!p_b8) rfl h (fun hb h=>?_) fun hb h=>?_
 ·refine Ok.chain (chain:=[(4,[1,2,3]),(5,[1,2,3]),(6,[])]) Tryz.tok Tryz.mixed (by kernel_rfl) ?_
  refine ⟨_,rfl,_,rfl,_,⟨_,rfl,rfl⟩,_,rfl,_,rfl,⟨⟨_,rfl,rfl⟩,⟨_,rfl,_,rfl,rfl⟩,⟨_,rfl,rfl⟩,Q0⟩,_,rfl,⟨⟨_,rfl,rfl⟩,⟨_,rfl,_,rfl,rfl⟩,⟨_,rfl,rfl⟩,Q0⟩,_,rfl,Q0,?_⟩
  cases h
  exact ⟨rfl,wt Q0 ⟨⟨_,rfl,.refl _⟩,⟨_,rfl,.refl _⟩,⟨_,rfl,.refl _⟩,⟨_,rfl,.refl _⟩,⟨_,rfl,.refl _⟩,⟨_,rfl,.refl _⟩,⟨_,rfl,.refl _⟩,⟨_,rfl,.refl _⟩,Q0⟩ rfl⟩
 refine sk ?_
 cases h
 exact ⟨rfl,wt Q0 ⟨⟨_,rfl,.refl _⟩,⟨_,rfl,.refl _⟩,⟨_,rfl,.refl _⟩,⟨_,rfl,.refl _⟩,⟨_,rfl,.refl _⟩,⟨_,rfl,.refl _⟩,⟨_,rfl,.refl _⟩,⟨_,rfl,.refl _⟩,Q0⟩ rfl⟩
theorem wg_chainN8 {l:Nat} {p_b1:api_Chain} {p_b2:List api_Disk} {p_b4:Int} {p_b5:Int} {p_b7:Bool} {p_b8:Bool} {p_b9:api_Chain} {p_b10:List api_Disk} {r:LS×(List api_Disk)×Int×(List UInt8)×Bool×Bool} (h:chainN38 p_b1 p_b2 p_b4 p_b5 p_b7 p_b8 p_b9 p_b10=some r):CallOk Tryz.prog 72 [(.c (.yield l) [] []),(.b 1009 0),(.b 1010 0)] ⟨noSlots,[(1000,.lp l .rdy Tryz.rf27_0 [(3,(.b 1001 0)),(4,(.b 1002 0)),(6,(.b 1003 0)),(7,(.b 1004 0)),(8,(.b 1005 0)),(9,(.b 1006 0)),(10,(.b 1007 0)),(11,(.b 1008 0))]),(1001,.box [(vi p_b1.Id),(vi p_b1.Ver),(.s (mI p_b1.Servers))]),(1002,.box [(.s (mA p_b2))]),(1003,.box [(.v (.slice none 0 0))]),(1004,.box [(vi p_b4)]),(1005,.box [(vi p_b5)]),(1006,.box [(.v (.slice none 0 0))]),(1007,.box [(vb p_b7)]),(1008,.box [(vb p_b8)]),(1009,.box [(vi p_b9.Id),(vi p_b9.Ver),(.s (mI p_b9.Servers))]),(1010,.box [(.s (mA p_b10))])]⟩ fun x s=>x=(.t [])∧s.H=[(1000,.lp l r.1 Tryz.rf27_0 [(3,(.b 1001 0)),(4,(.b 1002 0)),(6,(.b 1003 0)),(7,(.b 1004 0)),(8,(.b 1005 0)),(9,(.b 1006 0)),(10,(.b 1007 0)),(11,(.b 1008 0))]),(1001,.box [(vi p_b1.Id),(vi p_b1.Ver),(.s (mI p_b1.Servers))]),(1002,.box [(.s (mA p_b2))]),(1003,.box [(.s (mA r.2.1))]),(1004,.box [(vi r.2.2.1)]),(1005,.box [(vi p_b5)]),(1006,.box [(.s (mU r.2.2.2.1))]),(1007,.box [(vb r.2.2.2.2.1)]),(1008,.box [(vb r.2.2.2.2.2)]),(1009,.box [(vi p_b9.Id),(vi p_b9.Ver),(.s (mI p_b9.Servers))]),(1010,.box [(.s (mA p_b10))])]:=by
 refine pgen_of_ok (n:=43) (c:=Tryz.f72.body.getD .skip) Tryz.tok Tryz.func72 (by kernel_rfl) rfl rfl (Nat.le_of_ble_eq_true rfl) ?_
 unfold chainN38 at h
 refine wT [(0,.c (.yield l) [] []),(1,.b 1009 0),(2,.b 1010 0)] [(1000,.lp l .rdy Tryz.rf27_0 [(3,.b 1001 0),(4,.b 1002 0),(6,.b 1003 0),(7,.b 1004 0),(8,.b 1005 0),(9,.b 1006 0),(10,.b 1007 0),(11,.b 1008 0)]),(1001,.box [vi p_b1.Id,vi p_b1.Ver,.s (mI p_b1.Servers)]),(1002,.box [.s (mA p_b2)]),(1003,.box [.v (.slice none 0 0)]),(1004,.box [vi p_b4]),(1005,.box [vi p_b5]),(1006,.box [.v (.slice none 0 0)]),(1007,.box [vb p_b7]),(1008,.box [vb p_b8]),(1009,.box [vi p_b9.Id,vi p_b9.Ver,.s (mI p_b9.Servers)]),(1010,.box [.s (mA p_b10)])] Q3 ⟨hr,hr,hr,hr,hr,hr,hr,J4⟩ rfl ?_
 refine sg ?_
 refine ⟨_,rfl,_,List.length_map _,fun _=>?_⟩
 refine bl ?_
 refine Ok.loop (fun (s1:Int×LS×(List api_Disk)×Int×(List UInt8)×Bool×Bool)=>⟨Cat.tab [(0,.c (.yield l) [] []),(1,.b 1009 0),(2,.b 1010 0),(9,.s (mI p_b9.Servers)),(10,vi (p_b9.Servers.length:Int)),(11,vi s1.1)],[(1000,.lp l s1.2.1 Tryz.rf27_0 [(3,.b 1001 0),(4,.b 1002 0),(6,.b 1003 0),(7,.b 1004 0),(8,.b 1005 0),(9,.b 1006 0),(10,.b 1007 0),(11,.b 1008 0)]),(1001,.box [vi p_b1.Id,vi p_b1.Ver,.s (mI p_b1.Servers)]),(1002,.box [.s (mA p_b2)]),(1003,.box [.s (mA s1.2.2.1)]),(1004,.box [vi s1.2.2.2.1]),(1005,.box [vi p_b5]),(1006,.box [.s (mU s1.2.2.2.2.1)]),(1007,.box [vb s1.2.2.2.2.2.1]),(1008,.box [vb s1.2.2.2.2.2.2]),(1009,.box [vi p_b9.Id,vi p_b9.Ver,.s (mI p_b9.Servers)]),(1010,.box [.s (mA p_b10)])]⟩) (chainN40 p_b9 p_b10 p_b1 p_b2 p_b5) (s0:=(0,.rdy,[],p_b4,[],p_b7,p_b8)) h (wt Q6 ⟨⟨_,rfl,.refl _⟩,⟨_,rfl,.refl _⟩,⟨_,rfl,.refl _⟩,⟨_,rfl,.box (.cons (Le.nil) (.nil))⟩,⟨_,rfl,.refl _⟩,⟨_,rfl,.refl _⟩,⟨_,rfl,.box (.cons (Le.nil) (.nil))⟩,⟨_,rfl,.refl _⟩,⟨_,rfl,.refl _⟩,⟨_,rfl,.refl _⟩,⟨_,rfl,.refl _⟩,Q0⟩ rfl) ?_
 intro s1 y1 hB1 hy1
 unfold chainN40 at hB1
 refine sg ?_
 refine wT [(0,.c (.yield l) [] []),(1,.b 1009 0),(2,.b 1010 0),(9,.s (mI p_b9.Servers)),(10,vi (p_b9.Servers.length:Int)),(11,vi s1.1),(12,vb (decide (s1.1 < (p_b9.Servers.length:Int))))] [(1000,.lp l s1.2.1 Tryz.rf27_0 [(3,.b 1001 0),(4,.b 1002 0),(6,.b 1003 0),(7,.b 1004 0),(8,.b 1005 0),(9,.b 1006 0),(10,.b 1007 0),(11,.b 1008 0)]),(1001,.box [vi p_b1.Id,vi p_b1.Ver,.s (mI p_b1.Servers)]),(1002,.box [.s (mA p_b2)]),(1003,.box [.s (mA s1.2.2.1)]),(1004,.box [vi s1.2.2.2.1]),(1005,.box [vi p_b5]),(1006,.box [.s (mU s1.2.2.2.2.1)]),(1007,.box [vb s1.2.2.2.2.2.1]),(1008,.box [vb s1.2.2.2.2.2.2]),(1009,.box [vi p_b9.Id,vi p_b9.Ver,.s (mI p_b9.Servers)]),(1010,.box [.s (mA p_b10)])] Q7 ⟨hr,hr,hr,hr,hr,hr,hr,J4⟩ rfl ?_
 refine sq ?_
 refine cn 12 (decide (s1.1 < (p_b9.Servers.length:Int))) rfl hB1 (fun hb hB1=>?_) fun hb hB1=>?_
 ·refine sk ?_
  refine sq ?_
  refine bl ?_
  refine sg ?_
  obtain ⟨x1,hx1,hB1⟩:=bindS hB1
  refine ⟨_,idx_nat hx1,_,idx_row hx1,_,rfl,?_⟩
  refine wT [(0,.c (.yield l) [] []),(1,.b 1009 0),(2,.b 1010 0),(5,vi x1),(9,.s (mI p_b9.Servers)),(10,vi (p_b9.Servers.length:Int)),(11,vi s1.1)] [(1000,.lp l s1.2.1 Tryz.rf27_0 [(3,.b 1001 0),(4,.b 1002 0),(6,.b 1003 0),(7,.b 1004 0),(8,.b 1005 0),(9,.b 1006 0),(10,.b 1007 0),(11,.b 1008 0)]),(1001,.box [vi p_b1.Id,vi p_b1.Ver,.s (mI p_b1.Servers)]),(1002,.box [.s (mA p_b2)]),(1003,.box [.s (mA s1.2.2.1)]),(1004,.box [vi s1.2.2.2.1]),(1005,.box [vi p_b5]),(1006,.box [.s (mU s1.2.2.2.2.1)]),(1007,.box [vb s1.2.2.2.2.2.1]),(1008,.box [vb s1.2.2.2.2.2.2]),(1009,.box [vi p_b9.Id,vi p_b9.Ver,.s (mI p_b9.Servers)]),(1010,.box [.s (mA p_b10)])] Q7 ⟨hr,hr,hr,hr,hr,hr,hr,J4⟩ rfl ?_
  refine sq ?_
  refine Ok.draw2 (m:=11) (late:=[9]) (MD:=⟨[]⟩) (CH:=⟨[]⟩) Tryz.tok Tryz.mixed (by kernel_rfl) ?_
  obtain ⟨x2,hx2,hB1⟩:=bindS hB1
  obtain ⟨x3,hx3,hB1⟩:=bindS hB1
  refine ⟨_,⟨_,rfl,rfl⟩,_,rfl,_,⟨_,idx_nat hx2,_,idx_row hx2,rfl⟩,_,⟨_,rfl,rfl⟩,_,rfl,_,⟨_,rfl,rfl⟩,_,⟨_,.of_pure (w_chunk_Get hx3) (LeL.refl _),rfl⟩,_,rfl,_,rfl,_,rfl,Q0,?_⟩
  refine ⟨_,rfl,⟨⟨_,rfl,rfl⟩,Q0⟩,?_⟩
  obtain ⟨v1,hv1,hB1⟩:=bindS hB1
  refine Ok.seqw ⟨Cat.tab [(0,.c (.yield l) [] []),(1,.b 1009 0),(2,.b 1010 0),(9,.s (mI p_b9.Servers)),(10,vi (p_b9.Servers.length:Int)),(11,vi s1.1),(41,vb v1.1)],[(1000,.lp l v1.2.1 Tryz.rf27_0 [(3,.b 1001 0),(4,.b 1002 0),(6,.b 1003 0),(7,.b 1004 0),(8,.b 1005 0),(9,.b 1006 0),(10,.b 1007 0),(11,.b 1008 0)]),(1001,.box [vi p_b1.Id,vi p_b1.Ver,.s (mI p_b1.Servers)]),(1002,.box [.s (mA p_b2)]),(1003,.box [.s (mA v1.2.2.1)]),(1004,.box [vi v1.2.2.2.1]),(1005,.box [vi p_b5]),(1006,.box [.s (mU v1.2.2.2.2.1)]),(1007,.box [vb v1.2.2.2.2.2.1]),(1008,.box [vb v1.2.2.2.2.2.2]),(1009,.box [vi p_b9.Id,vi p_b9.Ver,.s (mI p_b9.Servers)]),(1010,.box [.s (mA p_b10)])]⟩ ?_ ?_
  ·refine rg ?_
   obtain ⟨c1,hg1,hv1⟩:=bindS hv1
   refine Br.ite hg1 (fun hb hg1=>?_) fun hb hg1=>?_
   ·refine ⟨_,rfl,_,rfl,?_⟩
    cases hg1
    obtain ⟨c2,hg2,hv1⟩:=bindS hv1
    refine Br.ite hg2 (fun hb hg2=>?_) fun hb hg2=>?_
    ·obtain ⟨hc1,hg2⟩:=chk_some hg2
     obtain ⟨x4,hx4,hg2⟩:=bindS hg2
     refine ⟨_,rfl,?_⟩
     refine CallOk.gen (m:=[(1000,1000),(1001,1001),(1002,1002),(1003,1003),(1004,1004),(1005,1005),(1006,1006),(1007,1007),(1008,1008)]) (n:=[]) (wg_chainN2 hx4) (.cons (Ln.imm rfl) (.cons (Ln.imm rfl) (.nil))) ⟨⟨1000,_,rfl,rfl,.lp hc1 ⟨rfl,Ln.b rfl,rfl,Ln.b rfl,rfl,Ln.b rfl,rfl,Ln.b rfl,rfl,Ln.b rfl,rfl,Ln.b rfl,rfl,Ln.b rfl,rfl,Ln.b rfl,Q0⟩⟩,⟨1001,_,rfl,rfl,.box (.cons (Ln.imm rfl) (.cons (Ln.imm rfl) (.cons (Ln.imm rfl) (.nil))))⟩,⟨1002,_,rfl,rfl,.box (.cons (Ln.imm rfl) (.nil))⟩,⟨1003,_,rfl,rfl,.box (.cons (Ln.imm rfl) (.nil))⟩,⟨1004,_,rfl,rfl,.box (.cons (Ln.imm rfl) (.nil))⟩,⟨1005,_,rfl,rfl,.box (.cons (Ln.imm rfl) (.nil))⟩,⟨1006,_,rfl,rfl,.box (.cons (Ln.imm rfl) (.nil))⟩,⟨1007,_,rfl,rfl,.box (.cons (Ln.imm rfl) (.nil))⟩,⟨1008,_,rfl,rfl,.box (.cons (Ln.imm rfl) (.nil))⟩,Q0⟩ rfl rfl rfl ?_
     cases hg2
     cases hv1
     exact wt Q7 ⟨hr,hr,hr,hr,hr,hr,hr,J4⟩ rfl
    cases hg2
    cases hv1
    exact wt Q7 ⟨hr,hr,hr,hr,hr,hr,hr,J4⟩ rfl
   cases hg1
   obtain ⟨c2,hg3,hv1⟩:=bindS hv1
   replace hg3:=iteF hg3
   cases hg3
   cases hv1
   exact wt Q7 ⟨hr,hr,hr,hr,hr,hr,hr,J4⟩ rfl
  refine cn 41 (v1.1) rfl hB1 (fun hb hB1=>?_) fun hb hB1=>?_
  ·refine rt ?_
   have hB1:=out_ret hB1 hy1
   cases hB1
   exact wt Q1 ⟨hr,hr,hr,hr,hr,hr,hr,J4⟩ rfl
  refine sk ?_
  refine rg ?_
  obtain ⟨hc2,hB1⟩:=chk_some hB1
  refine (Or.inl ⟨hc2,?_⟩)
  exact ⟨_,sj hB1,wt Q6 ⟨hr,hr,hr,hr,hr,hr,hr,J4⟩ rfl⟩
 refine xt ?_
 have hB1:=out_ret hB1 hy1
 cases hB1
 exact wt Q1 ⟨hr,hr,hr,hr,hr,hr,hr,J4⟩ rfl
theorem w_chainN7 [Off] {p_c} {p_disks} {p_server} {r} (h:chain_Patch p_c p_disks p_server=some r):Pure Tryz.prog 27 [(.a [(vi p_c.Id),(vi p_c.Ver),(.s (mI p_c.Servers))]),(.s (mA p_disks)),(vi p_server)] (.t [(.s (mA r.1)),(vi r.2)]):=by
 refine po Tryz.tok 64 Tryz.func27 (by kernel_rfl) rfl rfl rfl ?_
 unfold chain_Patch at h
 refine wE [(0,.a [vi p_c.Id,vi p_c.Ver,.s (mI p_c.Servers)]),(1,.s (mA p_disks)),(2,vi p_server)] Q3 ?_
 refine sg ?_
 refine wT [(2,vi p_server),(3,.b 3 0),(4,.b 4 0),(6,.b 6 0),(7,.b 7 0)] [(3,.box [vi p_c.Id,vi p_c.Ver,.s (mI p_c.Servers)]),(4,.box [.s (mA p_disks)]),(6,.box [.v (.slice none 0 0)]),(7,.box [vi (0)])] Q5 J4 rfl ?_
 refine sg ?_
 obtain ⟨x1,hx1,h⟩:=bindS h
 refine ⟨_,rfl,?_⟩
 refine CallOk.call (w_slicesN12 hx1) (LeL.refl _) ?_
 refine ⟨_,rfl,?_⟩
 refine sq ?_
 refine bl ?_
 refine sg ?_
 refine ⟨_,rfl,?_⟩
 refine wT [(2,vi p_server),(3,.b 3 0),(4,.b 4 0),(6,.b 6 0),(7,.b 7 0),(8,.b 8 0),(21,vb (decide (x1 < 0)))] [(3,.box [vi p_c.Id,vi p_c.Ver,.s (mI p_c.Servers)]),(4,.box [.s (mA p_disks)]),(6,.box [.v (.slice none 0 0)]),(7,.box [vi (0)]),(8,.box [vi x1])] Q7 ⟨hr,J4⟩ rfl ?_
 refine cn 21 (decide (x1 < 0)) rfl h (fun hb h=>?_) fun hb h=>?_
 ·refine sg ?_
  refine ⟨_,rfl,_,rfl,_,rfl,?_⟩
  refine wT [(6,.b 6 0),(7,.b 7 0)] [(6,.box [.s (mA p_disks)]),(7,.box [vi (1)])] Q2 J2 rfl ?_
  refine rt ?_
  cases h
  exact ⟨_,rfl,_,rfl,(Fz.t (.cons Fz.s (.cons Fz.v .nil)))⟩
 refine sg ?_
 obtain ⟨x2,hx2,h⟩:=bindS h
 refine ⟨_,rfl,?_⟩
 refine CallOk.borrow (w_slicesN5 hx2) (.cons Fz.s (.cons (Fz.c .nil (.cons (Fz.b rfl rfl) .nil)) (.nil))) rfl ?_
 refine wT [(2,vi p_server),(3,.b 3 0),(4,.b 4 0),(6,.b 6 0),(7,.b 7 0),(8,.b 8 0),(25,vb x2)] [(3,.box [vi p_c.Id,vi p_c.Ver,.s (mI p_c.Servers)]),(4,.box [.s (mA p_disks)]),(6,.box [.v (.slice none 0 0)]),(7,.box [vi (0)]),(8,.box [vi x1])] Q7 ⟨hr,J4⟩ rfl ?_
 refine cn 25 (x2) rfl h (fun hb h=>?_) fun hb h=>?_
 ·refine sg ?_
  refine ⟨_,rfl,_,rfl,_,rfl,?_⟩
  refine wT [(6,.b 6 0),(7,.b 7 0)] [(6,.box [.s (mA p_disks)]),(7,.box [vi (40)])] Q2 J2 rfl ?_
  refine rt ?_
  cases h
  exact ⟨_,rfl,_,rfl,(Fz.t (.cons Fz.s (.cons Fz.v .nil)))⟩
 refine sk ?_
 refine sg ?_
 refine wT [(2,vi p_server),(3,.b 3 0),(4,.b 4 0),(6,.b 6 0),(7,.b 7 0),(8,.b 8 0),(9,.b 9 0)] [(3,.box [vi p_c.Id,vi p_c.Ver,.s (mI p_c.Servers)]),(4,.box [.s (mA p_disks)]),(6,.box [.v (.slice none 0 0)]),(7,.box [vi (0)]),(8,.box [vi x1]),(9,.box [.v (.slice none 0 0)])] Q7 ⟨hr,hr,J4⟩ rfl ?_
 refine sg ?_
 refine ⟨_,rfl,_,rfl,?_⟩
 refine sq ?_
 refine sg ?_
 obtain ⟨x3,hx3,h⟩:=bindS h
 refine ⟨_,rfl,_,rfl,?_⟩
 refine CallOk.gen (m:=[]) (n:=[(2,999),(3,998)]) (wg_chainN6 hx3) (.cons (Ln.imm rfl) (.cons (Ln.imm rfl) (.nil))) Q0 rfl rfl rfl ?_
 refine wT [(2,vi p_server),(3,.b 3 0),(4,.b 4 0),(6,.b 6 0),(7,.b 7 0),(8,.b 8 0),(9,.b 9 0),(10,.b 10 0),(11,.b 11 0),(33,.c (.func 72) [] [.b 999 0,.b 998 0])] [(3,.box [vi p_c.Id,vi p_c.Ver,.s (mI p_c.Servers)]),(4,.box [.s (mA p_disks)]),(6,.box [.v (.slice none 0 0)]),(7,.box [vi (0)]),(8,.box [vi x1]),(9,.box [.v (.slice none 0 0)]),(10,.box [vb false]),(11,.box [vb false]),(999,.box [vi p_c.Id,vi p_c.Ver,.s (mI p_c.Servers)]),(998,.box [.s (mA p_disks)])] ⟨lr,lr,Q8⟩ ⟨hr,hr,hr,hr,hr,hr,J4⟩ rfl ?_
 refine bl ?_
 obtain ⟨x4,hx4,h⟩:=bindS h
 refine Ok.rangeFunc (lid:=997) (R0:=Tryz.rf27_0) (L:=[(3,.b 3 0),(4,.b 4 0),(6,.b 6 0),(7,.b 7 0),(8,.b 8 0),(9,.b 9 0),(10,.b 10 0),(11,.b 11 0)]) (by kernel_rfl) rfl rfl Q8 (fun l=>CallOk.gen (m:=[(1000,997),(1001,3),(1002,4),(1003,6),(1004,7),(1005,8),(1006,9),(1007,10),(1008,11),(1009,999),(1010,998)]) (n:=[]) (wg_chainN8 hx4) (.cons (Ln.c .nil .nil) (.cons (Ln.b rfl) (.cons (Ln.b rfl) (.nil)))) ⟨⟨997,_,rfl,rfl,.lp rfl ⟨rfl,Ln.b rfl,rfl,Ln.b rfl,rfl,Ln.b rfl,rfl,Ln.b rfl,rfl,Ln.b rfl,rfl,Ln.b rfl,rfl,Ln.b rfl,rfl,Ln.b rfl,Q0⟩⟩,⟨3,_,rfl,rfl,.box (.cons (Ln.imm rfl) (.cons (Ln.imm rfl) (.cons (Ln.imm rfl) (.nil))))⟩,⟨4,_,rfl,rfl,.box (.cons (Ln.imm rfl) (.nil))⟩,⟨6,_,rfl,rfl,.box (.cons (Ln.imm rfl) (.nil))⟩,⟨7,_,rfl,rfl,.box (.cons (Ln.imm rfl) (.nil))⟩,⟨8,_,rfl,rfl,.box (.cons (Ln.imm rfl) (.nil))⟩,⟨9,_,rfl,rfl,.box (.cons (Ln.imm rfl) (.nil))⟩,⟨10,_,rfl,rfl,.box (.cons (Ln.imm rfl) (.nil))⟩,⟨11,_,rfl,rfl,.box (.cons (Ln.imm rfl) (.nil))⟩,⟨999,_,rfl,rfl,.box (.cons (Ln.imm rfl) (.cons (Ln.imm rfl) (.cons (Ln.imm rfl) (.nil))))⟩,⟨998,_,rfl,rfl,.box (.cons (Ln.imm rfl) (.nil))⟩,Q0⟩ rfl rfl rfl ⟨_,_,_,rfl,?_⟩)
 refine rfq_rdy h (fun h=>?_) (fun h=>?_)
 ·refine wT [(2,vi p_server),(3,.b 3 0),(4,.b 4 0),(6,.b 6 0),(7,.b 7 0),(9,.b 9 0),(10,.b 10 0)] [(3,.box [vi p_c.Id,vi p_c.Ver,.s (mI p_c.Servers)]),(4,.box [.s (mA p_disks)]),(6,.box [.s (mA x4.2.1)]),(7,.box [vi x4.2.2.1]),(9,.box [.s (mU x4.2.2.2.1)]),(10,.box [vb x4.2.2.2.2.1])] Q7 ⟨hr,hr,J4⟩ rfl ?_
  refine sq ?_
  refine sg ?_
  refine ⟨_,rfl,?_⟩
  refine wT [(2,vi p_server),(3,.b 3 0),(4,.b 4 0),(6,.b 6 0),(7,.b 7 0),(9,.b 9 0),(51,vb (!x4.2.2.2.2.1))] [(3,.box [vi p_c.Id,vi p_c.Ver,.s (mI p_c.Servers)]),(4,.box [.s (mA p_disks)]),(6,.box [.s (mA x4.2.1)]),(7,.box [vi x4.2.2.1]),(9,.box [.s (mU x4.2.2.2.1)])] Q7 ⟨hr,J4⟩ rfl ?_
  refine cn 51 (!x4.2.2.2.2.1) rfl h (fun hb h=>?_) fun hb h=>?_
  ·refine sg ?_
   refine ⟨_,rfl,_,rfl,_,rfl,?_⟩
   refine wT [(6,.b 6 0),(7,.b 7 0)] [(6,.box [.s (mA p_disks)]),(7,.box [vi (260)])] Q2 J2 rfl ?_
   refine rt ?_
   cases h
   exact ⟨_,rfl,_,rfl,(Fz.t (.cons Fz.s (.cons Fz.v .nil)))⟩
  refine sk ?_
  refine sg ?_
  obtain ⟨x5,hx5,h⟩:=bindS h
  refine ⟨_,rfl,_,rfl,_,rfl,?_⟩
  refine CallOk.gen (m:=[]) (n:=[(10,996),(8,995),(3,994),(5,993)]) (wg_chainN4 hx5) (.cons (Ln.imm rfl) (.cons (Ln.imm rfl) (.cons (Ln.imm rfl) (.nil)))) Q0 rfl rfl rfl ?_
  refine wT [(2,vi p_server),(6,.b 6 0),(7,.b 7 0),(15,.o 996),(16,.c (.func 59) [] [.b 995 0,.b 994 0,.b 993 0])] [(6,.box [.s (mA x4.2.1)]),(7,.box [vi x4.2.2.1]),(996,.own 29 3 (mA x5)),(995,.box [.o 996]),(994,.box [vi p_c.Id,vi p_c.Ver,.s (mI p_c.Servers)]),(993,.box [.s (mU x4.2.2.2.1)])] Q5 ⟨hr,hr,J4⟩ rfl ?_
  refine sg ?_
  obtain ⟨x6,hx6,h⟩:=bindS h
  refine CallOk.gen (m:=[(1000,995),(1001,996),(1002,994),(1003,993)]) (n:=[]) (wg_chainN5 hx6) (.cons (Ln.imm rfl) (.cons (Ln.b rfl) (.cons (Ln.b rfl) (.cons (Ln.b rfl) (.nil))))) ⟨⟨995,_,rfl,rfl,.box (.cons (Ln.o rfl) (.nil))⟩,⟨996,_,rfl,rfl,.refl rfl⟩,⟨994,_,rfl,rfl,.box (.cons (Ln.imm rfl) (.cons (Ln.imm rfl) (.cons (Ln.imm rfl) (.nil))))⟩,⟨993,_,rfl,rfl,.box (.cons (Ln.imm rfl) (.nil))⟩,Q0⟩ rfl rfl rfl ?_
  refine wT [(6,.b 6 0),(7,.b 7 0),(15,.o 996)] [(6,.box [.s (mA x4.2.1)]),(7,.box [vi x4.2.2.1]),(996,.own 29 3 (mA x6))] Q3 J3 rfl ?_
  refine sg ?_
  refine ⟨_,rfl,_,rfl,?_⟩
  refine wT [(6,.b 6 0),(7,.b 7 0)] [(6,.box [.o 996]),(996,.own 29 3 (mA x6)),(7,.box [vi (0)])] Q2 J3 rfl ?_
  refine rt ?_
  cases h
  exact ⟨_,rfl,_,rfl,(Fz.t (.cons (Fz.o rfl) (.cons Fz.v .nil)))⟩
 refine rfq_ret h (fun h=>?_) (fun h=>?_)
 ·cases h
  exact ⟨_,rfl,_,rfl,(Fz.t (.cons Fz.s (.cons Fz.v .nil)))⟩
 cases h
theorem w_ref04N1 {p_a} {p_b} {r} (h:ref04_Bytes p_a p_b=some r):Pure Tryz.prog 17 [(.s (mU p_a)),(.s (mU p_b))] (vb r):=by
 refine po Tryz.tok 26 Tryz.func17 (by kernel_rfl) rfl rfl rfl ?_
 unfold ref04_Bytes at h
 refine wE [(0,.s (mU p_a)),(1,.s (mU p_b))] Q2 ?_
 refine sg ?_
 refine wE [(0,.s (mU p_a)),(1,.s (mU p_b))] Q2 ?_
 refine sq ?_
 refine sg ?_
 refine ⟨_,List.length_map _,fun _=>⟨_,List.length_map _,fun _=>?_⟩⟩
 refine wE [(0,.s (mU p_a)),(1,.s (mU p_b)),(10,vb ((p_a.length:Int) != (p_b.length:Int)))] Q3 ?_
 refine cn 10 ((p_a.length:Int) != (p_b.length:Int)) rfl h (fun hb h=>?_) fun hb h=>?_
 ·refine sg ?_
  refine wE [(4,vb false)] Q1 ?_
  refine rt ?_
  cases h
  exact Fz.v
 refine sk ?_
 refine Ok.seqj (fun v1=>⟨Cat.tab [],[]⟩) (fun v1=>ref04N4 v1=some r) ?_ ?_
 ·refine sg ?_
  refine wE [(0,.s (mU p_a)),(1,.s (mU p_b)),(5,vi (0))] Q3 ?_
  refine bl ?_
  refine Ok.loop (fun (s1:Int)=>⟨Cat.tab [(0,.s (mU p_a)),(1,.s (mU p_b)),(5,vi s1)],[]⟩) (ref04N2 p_a p_b) (s0:=0) h (wt Q3 Q0 rfl) ?_
  intro s1 y1 hB1 hy1
  unfold ref04N2 at hB1
  refine sq ?_
  refine sg ?_
  refine ⟨_,List.length_map _,fun _=>?_⟩
  refine wE [(0,.s (mU p_a)),(1,.s (mU p_b)),(5,vi s1),(14,vb (decide (s1 < (p_a.length:Int))))] Q4 ?_
  refine cn 14 (decide (s1 < (p_a.length:Int))) rfl hB1 (fun hb hB1=>?_) fun hb hB1=>?_
  ·refine sk ?_
   refine sq ?_
   refine bl ?_
   refine sq ?_
   refine Ok.draw (m:=9) (MD:=⟨[]⟩) (CH:=⟨[]⟩) Tryz.tok Tryz.mixed (by kernel_rfl) ?_
   obtain ⟨x1,hx1,hB1⟩:=bindS hB1
   obtain ⟨x2,hx2,hB1⟩:=bindS hB1
   refine ⟨_,rfl,_,rfl,_,⟨_,idx_nat hx1,_,idx_row hx1,rfl⟩,_,⟨_,rfl,rfl⟩,_,rfl,_,rfl,_,⟨_,idx_nat hx2,_,idx_row hx2,rfl⟩,_,⟨_,rfl,rfl⟩,_,rfl,Q0,?_⟩
   refine wE [(0,.s (mU p_a)),(1,.s (mU p_b)),(5,vi s1),(25,vb ((x1.toNat:Int) != (x2.toNat:Int)))] Q4 ?_
   refine cn 25 ((x1.toNat:Int) != (x2.toNat:Int)) rfl hB1 (fun hb hB1=>?_) fun hb hB1=>?_
   ·refine sg ?_
    refine wE [(4,vb false)] Q1 ?_
    refine rt ?_
    have hB1:=out_ret hB1 hy1
    cases hB1
    exact Fz.v
   refine sk ?_
   refine rg ?_
   obtain ⟨hc1,hB1⟩:=chk_some hB1
   refine (Or.inl ⟨hc1,?_⟩)
   exact ⟨_,sj hB1,wt Q3 Q0 rfl⟩
  refine xt ?_
  have hB1:=out_ret hB1 hy1
  exact ⟨_,hB1,wt Q0 Q0 rfl⟩
 intro v1 h
 unfold ref04N4 at h
 refine sg ?_
 refine wE [(4,vb true)] Q1 ?_
 refine rt ?_
 cases h
 exact Fz.v
theorem wg_chainN1 {l:Nat} {p_a1:Int} {p_a2:List UInt8} {p_h2:List Int} {r:Unit} (h:chainN8 p_a1 p_a2 p_h2=some r):CallOk Tryz.prog (.y l) [(vi p_a1),(.s (mU p_a2))] ⟨noSlots,(1000,.lp l .rdy Tryz.rf19_0 [(5,(.b 1001 0))])::[(1001,.box [(.o 1002)]),(1002,.own 3 1 (mI p_h2))]⟩ fun x s=>x=.v (.bool (LS.isR .rdy))∧s.H=(1000,.lp l .rdy Tryz.rf19_0 [(5,(.b 1001 0))])::[(1001,.box [(.o 999)]),(999,.own 3 1 (mI (p_h2++[p_a1])))]:=by
 letI:Rnds:=Rnds.yes
 refine yield_of_ok (e0:=.rdy) (H1:=[(1001,.box [.o 999]),(999,.own 3 1 (mI (p_h2++[p_a1])))]) (by kernel_rfl) (by kernel_rfl) rfl rfl rfl ?_
 unfold chainN8 at h
 refine wT [(5,.b 1001 0),(10,vi p_a1),(11,.s (mU p_a2))] [(1001,.box [.o 1002]),(1002,.own 3 1 (mI p_h2))] Q3 J2 rfl ?_
 refine rg ?_
 refine wT [(5,.b 1001 0),(6,vi p_a1)] [(1001,.box [.o 1002]),(1002,.own 3 1 (mI p_h2))] Q2 J2 rfl ?_
 refine bl ?_
 refine Ok.wk (Wk.mv (i:=1002) (d:=999) rfl rfl rfl) ?_
 refine rg ?_
 obtain ⟨hc1,h⟩:=chk_some h
 refine ⟨_,rfl,Or.inl ⟨rowsLen_map (f:=Go.Cat.encI) (n:=1) (fun _=>rfl) ([p_a1]),app_b2 (f:=Go.Cat.encI) (l:=p_h2) (l':=[p_a1]) hc1,_,(List.map_append (f:=Go.Cat.encI) (l₁:=p_h2) (l₂:=[p_a1])).symm,_,rfl,?_⟩⟩
 cases h
 exact ⟨rfl,wt Q0 ⟨⟨_,rfl,.refl _⟩,⟨_,rfl,.refl _⟩,Q0⟩ rfl⟩
theorem wg_chainN9 {l:Nat} {p_b2:api_Chain} {p_b3:List api_Disk} {r:(List Int)} (h:chainN44 p_b2 p_b3=some r):CallOk Tryz.prog 72 [(.c (.yield l) [] []),(.b 1002 0),(.b 1003 0)] ⟨noSlots,[(1000,.lp l .rdy Tryz.rf19_0 [(5,(.b 1001 0))]),(1001,.box [(.v (.slice none 0 0))]),(1002,.box [(vi p_b2.Id),(vi p_b2.Ver),(.s (mI p_b2.Servers))]),(1003,.box [(.s (mA p_b3))])]⟩ fun x s=>x=(.t [])∧s.H=[(1000,.lp l .rdy Tryz.rf19_0 [(5,(.b 1001 0))]),(1001,.box [(.o 999)]),(1002,.box [(vi p_b2.Id),(vi p_b2.Ver),(.s (mI p_b2.Servers))]),(1003,.box [(.s (mA p_b3))]),(999,.own 3 1 (mI r))]:=by
 refine pgen_of_ok (n:=43) (c:=Tryz.f72.body.getD .skip) Tryz.tok Tryz.func72 (by kernel_rfl) rfl rfl (Nat.le_of_ble_eq_true rfl) ?_
 unfold chainN44 at h
 refine wT [(0,.c (.yield l) [] []),(1,.b 1002 0),(2,.b 1003 0)] [(1000,.lp l .rdy Tryz.rf19_0 [(5,.b 1001 0)]),(1001,.box [.v (.slice none 0 0)]),(1002,.box [vi p_b2.Id,vi p_b2.Ver,.s (mI p_b2.Servers)]),(1003,.box [.s (mA p_b3)])] Q3 J4 rfl ?_
 refine sg ?_
 refine ⟨_,rfl,_,List.length_map _,fun _=>?_⟩
 refine bl ?_
 refine Ok.loop (fun (s1:Int×(List Int))=>⟨Cat.tab [(0,.c (.yield l) [] []),(1,.b 1002 0),(2,.b 1003 0),(9,.s (mI p_b2.Servers)),(10,vi (p_b2.Servers.length:Int)),(11,vi s1.1)],[(1000,.lp l .rdy Tryz.rf19_0 [(5,.b 1001 0)]),(1001,.box [.o 999]),(999,.own 3 1 (mI s1.2)),(1002,.box [vi p_b2.Id,vi p_b2.Ver,.s (mI p_b2.Servers)]),(1003,.box [.s (mA p_b3)])]⟩) (chainN46 p_b2 p_b3) (s0:=(0,[])) h ((Wk.ownb (b:=1001) (q:=0) (id:=999) (E:=3) (K:=1) rfl rfl rfl).trans (wt Q6 ⟨⟨_,rfl,.refl _⟩,⟨_,rfl,.refl _⟩,⟨_,rfl,.refl _⟩,⟨_,rfl,.refl _⟩,⟨_,rfl,.refl _⟩,Q0⟩ rfl)) ?_
 intro s1 y1 hB1 hy1
 unfold chainN46 at hB1
 refine sg ?_
 refine wT [(0,.c (.yield l) [] []),(1,.b 1002 0),(2,.b 1003 0),(9,.s (mI p_b2.Servers)),(10,vi (p_b2.Servers.length:Int)),(11,vi s1.1),(12,vb (decide (s1.1 < (p_b2.Servers.length:Int))))] [(1000,.lp l .rdy Tryz.rf19_0 [(5,.b 1001 0)]),(1001,.box [.o 999]),(999,.own 3 1 (mI s1.2)),(1002,.box [vi p_b2.Id,vi p_b2.Ver,.s (mI p_b2.Servers)]),(1003,.box [.s (mA p_b3)])] Q7 ⟨hr,J4⟩ rfl ?_
 refine sq ?_
 refine cn 12 (decide (s1.1 < (p_b2.Servers.length:Int))) rfl hB1 (fun hb hB1=>?_) fun hb hB1=>?_
 ·refine sk ?_
  refine sq ?_
  refine bl ?_
  refine sg ?_
  obtain ⟨x1,hx1,hB1⟩:=bindS hB1
  refine ⟨_,idx_nat hx1,_,idx_row hx1,_,rfl,?_⟩
  refine wT [(0,.c (.yield l) [] []),(1,.b 1002 0),(2,.b 1003 0),(5,vi x1),(9,.s (mI p_b2.Servers)),(10,vi (p_b2.Servers.length:Int)),(11,vi s1.1)] [(1000,.lp l .rdy Tryz.rf19_0 [(5,.b 1001 0)]),(1001,.box [.o 999]),(999,.own 3 1 (mI s1.2)),(1002,.box [vi p_b2.Id,vi p_b2.Ver,.s (mI p_b2.Servers)]),(1003,.box [.s (mA p_b3)])] Q7 ⟨hr,J4⟩ rfl ?_
  refine sq ?_
  refine Ok.draw2 (m:=11) (late:=[9]) (MD:=⟨[]⟩) (CH:=⟨[]⟩) Tryz.tok Tryz.mixed (by kernel_rfl) ?_
  obtain ⟨x2,hx2,hB1⟩:=bindS hB1
  obtain ⟨x3,hx3,hB1⟩:=bindS hB1
  refine ⟨_,⟨_,rfl,rfl⟩,_,rfl,_,⟨_,idx_nat hx2,_,idx_row hx2,rfl⟩,_,⟨_,rfl,rfl⟩,_,rfl,_,⟨_,rfl,rfl⟩,_,⟨_,.of_pure (w_chunk_Get hx3) (LeL.refl _),rfl⟩,_,rfl,_,rfl,_,rfl,Q0,?_⟩
  refine ⟨_,rfl,⟨⟨_,rfl,rfl⟩,Q0⟩,?_⟩
  obtain ⟨v1,hv1,hB1⟩:=bindS hB1
  refine Ok.seqw ⟨Cat.tab [(0,.c (.yield l) [] []),(1,.b 1002 0),(2,.b 1003 0),(9,.s (mI p_b2.Servers)),(10,vi (p_b2.Servers.length:Int)),(11,vi s1.1),(41,vb v1.1)],[(1000,.lp l .rdy Tryz.rf19_0 [(5,.b 1001 0)]),(1001,.box [.o 999]),(999,.own 3 1 (mI v1.2)),(1002,.box [vi p_b2.Id,vi p_b2.Ver,.s (mI p_b2.Servers)]),(1003,.box [.s (mA p_b3)])]⟩ ?_ ?_
  ·refine rg ?_
   obtain ⟨c1,hg1,hv1⟩:=bindS hv1
   refine Br.ite hg1 (fun hb hg1=>?_) fun hb hg1=>?_
   ·refine ⟨_,rfl,_,rfl,?_⟩
    cases hg1
    obtain ⟨c2,hg2,hv1⟩:=bindS hv1
    refine Br.ite hg2 (fun hb hg2=>?_) fun hb hg2=>?_
    ·obtain ⟨x4,hx4,hg2⟩:=bindS hg2
     refine ⟨_,rfl,?_⟩
     refine CallOk.gen (m:=[(1000,1000),(1001,1001),(1002,999)]) (n:=[(999,999)]) (wg_chainN1 hx4) (.cons (Ln.imm rfl) (.cons (Ln.imm rfl) (.nil))) ⟨⟨1000,_,rfl,rfl,.lp rfl ⟨rfl,Ln.b rfl,Q0⟩⟩,⟨1001,_,rfl,rfl,.box (.cons (Ln.o rfl) (.nil))⟩,⟨999,_,rfl,rfl,.refl rfl⟩,Q0⟩ rfl rfl rfl ?_
     cases hg2
     cases hv1
     exact wt Q7 ⟨hr,J4⟩ rfl
    cases hg2
    cases hv1
    exact wt Q7 ⟨hr,J4⟩ rfl
   cases hg1
   obtain ⟨c2,hg3,hv1⟩:=bindS hv1
   replace hg3:=iteF hg3
   cases hg3
   cases hv1
   exact wt Q7 ⟨hr,J4⟩ rfl
  refine cn 41 (v1.1) rfl hB1 (fun hb hB1=>?_) fun hb hB1=>?_
  ·refine rt ?_
   have hB1:=out_ret hB1 hy1
   cases hB1
   exact wt Q1 ⟨hr,J4⟩ rfl
  refine sk ?_
  refine rg ?_
  obtain ⟨hc1,hB1⟩:=chk_some hB1
  refine (Or.inl ⟨hc1,?_⟩)
  exact ⟨_,sj hB1,wt Q6 ⟨hr,J4⟩ rfl⟩
 refine xt ?_
 have hB1:=out_ret hB1 hy1
 cases hB1
 exact wt Q1 ⟨hr,J4⟩ rfl
theorem wo_chainN1 {p_c} {p_disks} {r} (h:chainN6 p_c p_disks=some r):POwn Tryz.prog 19 [(.a [(vi p_c.Id),(vi p_c.Ver),(.s (mI p_c.Servers))]),(.s (mA p_disks))] 3 1 (mI r):=by
 refine pw Tryz.tok 17 Tryz.func19 (by kernel_rfl) rfl rfl rfl ?_
 unfold chainN6 at h
 refine wE [(0,.a [vi p_c.Id,vi p_c.Ver,.s (mI p_c.Servers)]),(1,.s (mA p_disks))] Q2 ?_
 refine sg ?_
 refine wT [(1,.s (mA p_disks)),(2,.b 2 0)] [(2,.box [vi p_c.Id,vi p_c.Ver,.s (mI p_c.Servers)])] Q2 J1 rfl ?_
 refine sg ?_
 refine wT [(1,.s (mA p_disks)),(2,.b 2 0),(5,.b 5 0)] [(2,.box [vi p_c.Id,vi p_c.Ver,.s (mI p_c.Servers)]),(5,.box [.v (.slice none 0 0)])] Q3 J2 rfl ?_
 refine sq ?_
 refine sg ?_
 obtain ⟨x1,hx1,h⟩:=bindS h
 refine ⟨_,rfl,?_⟩
 refine CallOk.gen (m:=[]) (n:=[(2,999),(3,998)]) (wg_chainN6 hx1) (.cons (Ln.imm rfl) (.cons (Ln.imm rfl) (.nil))) Q0 rfl rfl rfl ?_
 refine wT [(5,.b 5 0),(9,.c (.func 72) [] [.b 999 0,.b 998 0])] [(5,.box [.v (.slice none 0 0)]),(999,.box [vi p_c.Id,vi p_c.Ver,.s (mI p_c.Servers)]),(998,.box [.s (mA p_disks)])] Q2 J3 rfl ?_
 refine bl ?_
 obtain ⟨x2,hx2,h⟩:=bindS h
 refine Ok.rangeFunc (lid:=997) (R0:=Tryz.rf19_0) (L:=[(5,.b 5 0)]) (by kernel_rfl) rfl rfl Q1 (fun l=>CallOk.gen (m:=[(1000,997),(1001,5),(1002,999),(1003,998)]) (n:=[(999,996)]) (wg_chainN9 hx2) (.cons (Ln.c .nil .nil) (.cons (Ln.b rfl) (.cons (Ln.b rfl) (.nil)))) ⟨⟨997,_,rfl,rfl,.lp rfl ⟨rfl,Ln.b rfl,Q0⟩⟩,⟨5,_,rfl,rfl,.box (.cons (Ln.imm rfl) (.nil))⟩,⟨999,_,rfl,rfl,.box (.cons (Ln.imm rfl) (.cons (Ln.imm rfl) (.cons (Ln.imm rfl) (.nil))))⟩,⟨998,_,rfl,rfl,.box (.cons (Ln.imm rfl) (.nil))⟩,Q0⟩ rfl rfl rfl ⟨_,_,_,rfl,?_⟩)
 refine wT [(5,.b 5 0)] [(5,.box [.o 996]),(996,.own 3 1 (mI x2))] Q1 J2 rfl ?_
 refine sg ?_
 refine ⟨_,rfl,?_⟩
 refine wT [(4,.o 996)] [(996,.own 3 1 (mI x2))] Q1 J1 rfl ?_
 refine rt ?_
 cases h
 exact (.inr ⟨_,rfl,rfl⟩)
theorem w_chainN3 {p_c} {p_disks} {r} (h:chainN6 p_c p_disks=some r):Pure Tryz.prog 19 [(.a [(vi p_c.Id),(vi p_c.Ver),(.s (mI p_c.Servers))]),(.s (mA p_disks))] (.s (mI r)):=(wo_chainN1 h).pure
theorem w_ref26N3 {p_a} {p_b} {r} (h:ref26_Ints p_a p_b=some r):Pure Tryz.prog 18 [(.s (mI p_a)),(.s (mI p_b))] (vb r):=by
 refine po Tryz.tok 26 Tryz.func18 (by kernel_rfl) rfl rfl rfl ?_
 unfold ref26_Ints at h
 refine wE [(0,.s (mI p_a)),(1,.s (mI p_b))] Q2 ?_
 refine sg ?_
 refine wE [(0,.s (mI p_a)),(1,.s (mI p_b))] Q2 ?_
 refine sq ?_
 refine sg ?_
 refine ⟨_,List.length_map _,fun _=>⟨_,List.length_map _,fun _=>?_⟩⟩
 refine wE [(0,.s (mI p_a)),(1,.s (mI p_b)),(10,vb ((p_a.length:Int) != (p_b.length:Int)))] Q3 ?_
 refine cn 10 ((p_a.length:Int) != (p_b.length:Int)) rfl h (fun hb h=>?_) fun hb h=>?_
 ·refine sg ?_
  refine wE [(4,vb false)] Q1 ?_
  refine rt ?_
  cases h
  exact Fz.v
 refine sk ?_
 refine Ok.seqj (fun v1=>⟨Cat.tab [],[]⟩) (fun v1=>ref26N16 v1=some r) ?_ ?_
 ·refine sg ?_
  refine wE [(0,.s (mI p_a)),(1,.s (mI p_b)),(5,vi (0))] Q3 ?_
  refine bl ?_
  refine Ok.loop (fun (s1:Int)=>⟨Cat.tab [(0,.s (mI p_a)),(1,.s (mI p_b)),(5,vi s1)],[]⟩) (ref26N14 p_a p_b) (s0:=0) h (wt Q3 Q0 rfl) ?_
  intro s1 y1 hB1 hy1
  unfold ref26N14 at hB1
  refine sq ?_
  refine sg ?_
  refine ⟨_,List.length_map _,fun _=>?_⟩
  refine wE [(0,.s (mI p_a)),(1,.s (mI p_b)),(5,vi s1),(14,vb (decide (s1 < (p_a.length:Int))))] Q4 ?_
  refine cn 14 (decide (s1 < (p_a.length:Int))) rfl hB1 (fun hb hB1=>?_) fun hb hB1=>?_
  ·refine sk ?_
   refine sq ?_
   refine bl ?_
   refine sq ?_
   refine Ok.draw (m:=9) (MD:=⟨[]⟩) (CH:=⟨[]⟩) Tryz.tok Tryz.mixed (by kernel_rfl) ?_
   obtain ⟨x1,hx1,hB1⟩:=bindS hB1
   obtain ⟨x2,hx2,hB1⟩:=bindS hB1
   refine ⟨_,rfl,_,rfl,_,⟨_,idx_nat hx1,_,idx_row hx1,rfl⟩,_,⟨_,rfl,rfl⟩,_,rfl,_,rfl,_,⟨_,idx_nat hx2,_,idx_row hx2,rfl⟩,_,⟨_,rfl,rfl⟩,_,rfl,Q0,?_⟩
   refine wE [(0,.s (mI p_a)),(1,.s (mI p_b)),(5,vi s1),(25,vb (x1 != x2))] Q4 ?_
   refine cn 25 (x1 != x2) rfl hB1 (fun hb hB1=>?_) fun hb hB1=>?_
   ·refine sg ?_
    refine wE [(4,vb false)] Q1 ?_
    refine rt ?_
    have hB1:=out_ret hB1 hy1
    cases hB1
    exact Fz.v
   refine sk ?_
   refine rg ?_
   obtain ⟨hc1,hB1⟩:=chk_some hB1
   refine (Or.inl ⟨hc1,?_⟩)
   exact ⟨_,sj hB1,wt Q3 Q0 rfl⟩
  refine xt ?_
  have hB1:=out_ret hB1 hy1
  exact ⟨_,hB1,wt Q0 Q0 rfl⟩
 intro v1 h
 unfold ref26N16 at h
 refine sg ?_
 refine wE [(4,vb true)] Q1 ?_
 refine rt ?_
 cases h
 exact Fz.v
theorem w_ref26N8 {p_a} {p_b} {r} (h:ref26_Same p_a p_b=some r):Pure Tryz.prog 12 [(.a [(vi p_a.Id),(vi p_a.Ver),(.s (mI p_a.Servers))]),(.a [(vi p_b.Id),(vi p_b.Ver),(.s (mI p_b.Servers))])] (vb r):=by
 refine po Tryz.tok 26 Tryz.func12 (by kernel_rfl) rfl rfl rfl ?_
 unfold ref26_Same at h
 refine wE [(0,.a [vi p_a.Id,vi p_a.Ver,.s (mI p_a.Servers)]),(1,.a [vi p_b.Id,vi p_b.Ver,.s (mI p_b.Servers)])] Q2 ?_
 refine sg ?_
 refine wT [(2,.b 2 0),(3,.b 3 0)] [(2,.box [vi p_a.Id,vi p_a.Ver,.s (mI p_a.Servers)]),(3,.box [vi p_b.Id,vi p_b.Ver,.s (mI p_b.Servers)])] Q2 J2 rfl ?_
 refine sg ?_
 obtain ⟨x1,hx1,h⟩:=bindS h
 refine ⟨_,rfl,_,rfl,?_⟩
 refine CallOk.call (w_ref26N3 hx1) (LeL.refl _) ?_
 refine wT [(2,.b 2 0),(3,.b 3 0),(5,vb x1)] [(2,.box [vi p_a.Id,vi p_a.Ver,.s (mI p_a.Servers)]),(3,.box [vi p_b.Id,vi p_b.Ver,.s (mI p_b.Servers)])] Q3 J2 rfl ?_
 obtain ⟨v1,hv1,h⟩:=bindS h
 refine Ok.seqw ⟨Cat.tab [(4,vb v1)],[]⟩ ?_ ?_
 ·refine rg ?_
  obtain ⟨c1,hg1,hv1⟩:=bindS hv1
  refine Br.ite hg1 (fun hb hg1=>?_) fun hb hg1=>?_
  ·refine ⟨_,rfl,_,rfl,?_⟩
   cases hg1
   obtain ⟨c2,hg2,hv1⟩:=bindS hv1
   refine Br.ite hg2 (fun hb hg2=>?_) fun hb hg2=>?_
   ·refine ⟨_,rfl,_,rfl,?_⟩
    cases hg2
    cases hv1
    exact wt Q1 Q0 rfl
   cases hg2
   cases hv1
   exact wt Q1 Q0 rfl
  cases hg1
  obtain ⟨c2,hg3,hv1⟩:=bindS hv1
  replace hg3:=iteF hg3
  cases hg3
  cases hv1
  exact wt Q1 Q0 rfl
 refine rt ?_
 cases h
 exact Fz.v
end Go.Proofs
