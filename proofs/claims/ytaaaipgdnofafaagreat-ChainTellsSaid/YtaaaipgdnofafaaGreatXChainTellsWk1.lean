/- The walks of this seat beside the plain programs, part 1. No condition. -/
import Derived.Test.YtaaaipgdnofafaaGreatXChainTellsEn
import Derived.Test.YtaaaipgdnofafaaGreatXChainTellsWk0
namespace Go.Proofs
set_option linter.all false
open Go Go.Cat
variable [M:Mono]
set_option maxRecDepth 100000
theorem w_chainN4 [Off] {p_id} {p_servers} {p_disks} {p_data} {r} (h:chain_Make p_id p_servers p_disks p_data=some r):Pure Tryz.prog 10 [(vi p_id),(.s (mI p_servers)),(.s (mA p_disks)),(.s (mU p_data))] (.t [(.a [(vi r.1.Id),(vi r.1.Ver),(.s (mI r.1.Servers))]),(.s (mA r.2.1)),(vi r.2.2)]):=by
 refine po Tryz.tok 57 Tryz.func10 (by kernel_rfl) rfl rfl rfl ?_
 unfold chain_Make at h
 refine wE [(0,vi p_id),(1,.s (mI p_servers)),(2,.s (mA p_disks)),(3,.s (mU p_data))] Q4 ?_
 refine sg ?_
 refine wT [(0,vi p_id),(1,.s (mI p_servers)),(3,.s (mU p_data)),(6,.b 6 0),(8,.b 8 0)] [(6,.box [.s (mA p_disks)]),(8,.box [vi (0),vi (0),.v (.slice none 0 0)])] Q5 J2 rfl ?_
 refine sg ?_
 obtain ⟨x1,hx1,h⟩:=bindS h
 refine CallOk.call (w_slicesN2 hx1) (LeL.refl _) ?_
 refine ⟨_,rfl,?_⟩
 refine wT [(1,.s (mI p_servers)),(3,.s (mU p_data)),(6,.b 6 0),(8,.b 8 0),(11,.b 11 0)] [(6,.box [.s (mA p_disks)]),(8,.box [vi (0),vi (0),.v (.slice none 0 0)]),(11,.box [vi p_id,vi (1),.s (mI x1)])] Q5 J3 rfl ?_
 refine sq ?_
 refine bl ?_
 obtain ⟨v1,hv1,h⟩:=bindS h
 refine Ok.seqw ⟨Cat.tab [(1,.s (mI p_servers)),(3,.s (mU p_data)),(6,.b 6 0),(8,.b 8 0),(11,.b 11 0),(20,vb v1)],[(6,.box [.s (mA p_disks)]),(8,.box [vi (0),vi (0),.v (.slice none 0 0)]),(11,.box [vi p_id,vi (1),.s (mI x1)])]⟩ ?_ ?_
 ·refine rg ?_
  obtain ⟨x2,hx2,hv1⟩:=bindS hv1
  refine ⟨_,rfl,_,rfl,?_⟩
  refine CallOk.call (w_chainN10 hx2) (LeL.refl _) ?_
  obtain ⟨c1,hg1,hv1⟩:=bindS hv1
  refine Br.itf hg1 (fun hb hg1=>?_) fun hb hg1=>?_
  ·cases hg1
   cases hv1
   exact wt Q6 J3 rfl
  refine ⟨_,List.length_map _,fun _=>?_⟩
  cases hg1
  cases hv1
  exact wt Q6 J3 rfl
 refine cn 20 (v1) rfl h (fun hb h=>?_) fun hb h=>?_
 ·refine sq ?_
  refine Ok.draw2 (m:=2) (late:=[1]) (MD:=⟨[]⟩) (CH:=⟨[]⟩) Tryz.tok Tryz.mixed (by kernel_rfl) ?_
  refine ⟨_,rfl,_,⟨_,rfl,rfl⟩,Q0,?_⟩
  refine ⟨_,rfl,⟨⟨_,rfl,_,rfl,rfl⟩,Q0⟩,?_⟩
  refine wT [(8,.b 8 0),(9,.s (mA p_disks)),(10,vi (1))] [(8,.box [vi (0),vi (0),.v (.slice none 0 0)])] Q3 J1 rfl ?_
  refine rt ?_
  cases h
  exact ⟨_,rfl,(Fz.t (.cons (Fz.a (.cons Fz.v (.cons Fz.v (.cons Fz.nil .nil)))) (.cons Fz.s (.cons Fz.v .nil))))⟩
 refine sg ?_
 obtain ⟨x3,hx3,h⟩:=bindS h
 refine CallOk.borrow (w_slicesN4 hx3) (.cons Fz.s (.cons (Fz.c .nil (.cons (Fz.b rfl rfl) .nil)) (.nil))) rfl ?_
 refine wT [(1,.s (mI p_servers)),(3,.s (mU p_data)),(6,.b 6 0),(8,.b 8 0),(11,.b 11 0),(32,vb x3)] [(6,.box [.s (mA p_disks)]),(8,.box [vi (0),vi (0),.v (.slice none 0 0)]),(11,.box [vi p_id,vi (1),.s (mI x1)])] Q6 J3 rfl ?_
 refine cn 32 (x3) rfl h (fun hb h=>?_) fun hb h=>?_
 ·refine sq ?_
  refine Ok.draw2 (m:=2) (late:=[1]) (MD:=⟨[]⟩) (CH:=⟨[]⟩) Tryz.tok Tryz.mixed (by kernel_rfl) ?_
  refine ⟨_,rfl,_,⟨_,rfl,rfl⟩,Q0,?_⟩
  refine ⟨_,rfl,⟨⟨_,rfl,_,rfl,rfl⟩,Q0⟩,?_⟩
  refine wT [(8,.b 8 0),(9,.s (mA p_disks)),(10,vi (40))] [(8,.box [vi (0),vi (0),.v (.slice none 0 0)])] Q3 J1 rfl ?_
  refine rt ?_
  cases h
  exact ⟨_,rfl,(Fz.t (.cons (Fz.a (.cons Fz.v (.cons Fz.v (.cons Fz.nil .nil)))) (.cons Fz.s (.cons Fz.v .nil))))⟩
 refine sk ?_
 refine sg ?_
 obtain ⟨x4,hx4,h⟩:=bindS h
 refine ⟨_,rfl,_,rfl,?_⟩
 refine CallOk.gen (m:=[]) (n:=[(10,999),(8,998),(3,997),(5,996)]) (wg_chainN4 hx4) (.cons (Ln.imm rfl) (.cons (Ln.imm rfl) (.cons (Ln.imm rfl) (.nil)))) Q0 rfl rfl rfl ?_
 refine wT [(1,.s (mI p_servers)),(8,.b 8 0),(11,.b 11 0),(12,.o 999),(13,.c (.func 59) [] [.b 998 0,.b 997 0,.b 996 0])] [(8,.box [vi (0),vi (0),.v (.slice none 0 0)]),(11,.box [vi p_id,vi (1),.s (mI x1)]),(999,.own 29 3 (mA x4)),(998,.box [.o 999]),(997,.box [vi ((⟨p_id,1,x1⟩:api_Chain).Id),vi ((⟨p_id,1,x1⟩:api_Chain).Ver),.s (mI ((⟨p_id,1,x1⟩:api_Chain).Servers))]),(996,.box [.s (mU p_data)])] Q5 ⟨hr,hr,J4⟩ rfl ?_
 obtain ⟨v2,hv2,h⟩:=bindS h
 refine Ok.seqw ⟨Cat.tab [(8,.b 8 0),(11,.b 11 0),(12,.o 999)],[(8,.box [vi (0),vi (0),.v (.slice none 0 0)]),(11,.box [vi p_id,vi (1),.s (mI x1)]),(999,.own 29 3 (mA v2))]⟩ ?_ ?_
 ·refine sg ?_
  refine ⟨_,List.length_map _,fun _=>?_⟩
  refine wT [(8,.b 8 0),(11,.b 11 0),(12,.o 999),(13,.c (.func 59) [] [.b 998 0,.b 997 0,.b 996 0]),(45,.s (mI p_servers)),(46,vi (p_servers.length:Int)),(47,vi (0))] [(8,.box [vi (0),vi (0),.v (.slice none 0 0)]),(11,.box [vi p_id,vi (1),.s (mI x1)]),(999,.own 29 3 (mA x4)),(998,.box [.o 999]),(997,.box [vi ((⟨p_id,1,x1⟩:api_Chain).Id),vi ((⟨p_id,1,x1⟩:api_Chain).Ver),.s (mI ((⟨p_id,1,x1⟩:api_Chain).Servers))]),(996,.box [.s (mU p_data)])] Q7 ⟨hr,hr,J4⟩ rfl ?_
  refine bl ?_
  refine Ok.loop (fun (s1:Int×(List api_Disk))=>⟨Cat.tab [(8,.b 8 0),(11,.b 11 0),(12,.o 999),(13,.c (.func 59) [] [.b 998 0,.b 997 0,.b 996 0]),(45,.s (mI p_servers)),(46,vi (p_servers.length:Int)),(47,vi s1.1)],[(8,.box [vi (0),vi (0),.v (.slice none 0 0)]),(11,.box [vi p_id,vi (1),.s (mI x1)]),(999,.own 29 3 (mA s1.2)),(998,.box [.o 999]),(997,.box [vi ((⟨p_id,1,x1⟩:api_Chain).Id),vi ((⟨p_id,1,x1⟩:api_Chain).Ver),.s (mI ((⟨p_id,1,x1⟩:api_Chain).Servers))]),(996,.box [.s (mU p_data)])]⟩) (chainN10 p_servers p_id x1 p_data) (s0:=(0,x4)) hv2 (wt Q7 ⟨⟨_,rfl,.refl _⟩,⟨_,rfl,.refl _⟩,⟨_,rfl,.refl _⟩,⟨_,rfl,.refl _⟩,⟨_,rfl,.refl _⟩,⟨_,rfl,.refl _⟩,Q0⟩ rfl) ?_
  intro s1 y1 hB1 hy1
  unfold chainN10 at hB1
  refine sg ?_
  refine sq ?_
  refine cn 48 (decide (s1.1 < (p_servers.length:Int))) rfl hB1 (fun hb hB1=>?_) fun hb hB1=>?_
  ·refine sk ?_
   refine sq ?_
   refine bl ?_
   refine sg ?_
   obtain ⟨x5,hx5,hB1⟩:=bindS hB1
   refine ⟨_,idx_nat hx5,_,idx_row hx5,_,rfl,?_⟩
   refine wT [(8,.b 8 0),(11,.b 11 0),(12,.o 999),(13,.c (.func 59) [] [.b 998 0,.b 997 0,.b 996 0]),(15,vi x5),(45,.s (mI p_servers)),(46,vi (p_servers.length:Int)),(47,vi s1.1)] [(8,.box [vi (0),vi (0),.v (.slice none 0 0)]),(11,.box [vi p_id,vi (1),.s (mI x1)]),(999,.own 29 3 (mA s1.2)),(998,.box [.o 999]),(997,.box [vi ((⟨p_id,1,x1⟩:api_Chain).Id),vi ((⟨p_id,1,x1⟩:api_Chain).Ver),.s (mI ((⟨p_id,1,x1⟩:api_Chain).Servers))]),(996,.box [.s (mU p_data)])] Q8 ⟨hr,hr,J4⟩ rfl ?_
   refine rg ?_
   obtain ⟨x6,hx6,hB1⟩:=bindS hB1
   refine CallOk.gen (m:=[(1000,998),(1001,999),(1002,997),(1003,996)]) (n:=[]) (wg_chainN5 hx6) (.cons (Ln.imm rfl) (.cons (Ln.b rfl) (.cons (Ln.b rfl) (.cons (Ln.b rfl) (.nil))))) ⟨⟨998,_,rfl,rfl,.box (.cons (Ln.o rfl) (.nil))⟩,⟨999,_,rfl,rfl,.refl rfl⟩,⟨997,_,rfl,rfl,.box (.cons (Ln.imm rfl) (.cons (Ln.imm rfl) (.cons (Ln.imm rfl) (.nil))))⟩,⟨996,_,rfl,rfl,.box (.cons (Ln.imm rfl) (.nil))⟩,Q0⟩ rfl rfl rfl ?_
   refine rg ?_
   obtain ⟨hc1,hB1⟩:=chk_some hB1
   refine (Or.inl ⟨hc1,?_⟩)
   exact ⟨_,sj hB1,wt Q7 ⟨hr,hr,J4⟩ rfl⟩
  refine xt ?_
  have hB1:=out_ret hB1 hy1
  cases hB1
  exact wt Q3 J3 rfl
 refine sg ?_
 refine ⟨_,rfl,_,rfl,?_⟩
 refine wT [(8,.b 8 0),(9,.o 999),(10,vi (0))] [(8,.box [vi p_id,vi (1),.s (mI x1)]),(999,.own 29 3 (mA v2))] Q3 J2 rfl ?_
 refine rt ?_
 cases h
 exact ⟨_,rfl,(Fz.t (.cons (Fz.imm rfl) (.cons (Fz.o rfl) (.cons Fz.v .nil))))⟩
theorem w_chainN11 [Off] {p_c} {p_disks} {p_data} {p_upto} {r} (h:chain_Write p_c p_disks p_data p_upto=some r):Pure Tryz.prog 29 [(.a [(vi p_c.Id),(vi p_c.Ver),(.s (mI p_c.Servers))]),(.s (mA p_disks)),(.s (mU p_data)),(vi p_upto)] (.t [(.s (mA r.1)),(vb r.2)]):=by
 refine po Tryz.tok 49 Tryz.func29 (by kernel_rfl) rfl rfl rfl ?_
 unfold chain_Write at h
 refine wE [(0,.a [vi p_c.Id,vi p_c.Ver,.s (mI p_c.Servers)]),(1,.s (mA p_disks)),(2,.s (mU p_data)),(3,vi p_upto)] Q4 ?_
 refine sg ?_
 refine wT [(1,.s (mA p_disks)),(2,.s (mU p_data)),(3,vi p_upto),(4,.b 4 0)] [(4,.box [vi p_c.Id,vi p_c.Ver,.s (mI p_c.Servers)])] Q4 J1 rfl ?_
 refine sq ?_
 refine sg ?_
 refine ⟨_,List.length_map _,fun _=>?_⟩
 refine wT [(1,.s (mA p_disks)),(2,.s (mU p_data)),(3,vi p_upto),(4,.b 4 0),(16,vb (decide ((p_data.length:Int) > 64)))] [(4,.box [vi p_c.Id,vi p_c.Ver,.s (mI p_c.Servers)])] Q5 J1 rfl ?_
 refine cn 16 (decide ((p_data.length:Int) > 64)) rfl h (fun hb h=>?_) fun hb h=>?_
 ·refine sg ?_
  refine wE [(8,.s (mA p_disks)),(9,vb false)] Q2 ?_
  refine rt ?_
  cases h
  exact (Fz.t (.cons Fz.s (.cons Fz.v .nil)))
 refine sk ?_
 refine sg ?_
 obtain ⟨x1,hx1,h⟩:=bindS h
 refine ⟨_,rfl,?_⟩
 refine CallOk.gen (m:=[]) (n:=[(10,999),(8,998),(3,997),(5,996)]) (wg_chainN4 hx1) (.cons (Ln.imm rfl) (.cons (Ln.imm rfl) (.cons (Ln.imm rfl) (.nil)))) Q0 rfl rfl rfl ?_
 refine wT [(3,vi p_upto),(4,.b 4 0),(10,.o 999),(11,.c (.func 59) [] [.b 998 0,.b 997 0,.b 996 0])] [(4,.box [vi p_c.Id,vi p_c.Ver,.s (mI p_c.Servers)]),(999,.own 29 3 (mA x1)),(998,.box [.o 999]),(997,.box [vi p_c.Id,vi p_c.Ver,.s (mI p_c.Servers)]),(996,.box [.s (mU p_data)])] Q4 ⟨hr,J4⟩ rfl ?_
 refine Ok.seqj (fun v1=>⟨Cat.tab [(10,.o 999)],[(999,.own 29 3 (mA v1))]⟩) (fun v1=>chainN27 v1=some r) ?_ ?_
 ·refine sg ?_
  refine ⟨_,rfl,_,List.length_map _,fun _=>?_⟩
  refine wT [(3,vi p_upto),(10,.o 999),(11,.c (.func 59) [] [.b 998 0,.b 997 0,.b 996 0]),(26,.s (mI p_c.Servers)),(27,vi (p_c.Servers.length:Int)),(28,vi (0))] [(999,.own 29 3 (mA x1)),(998,.box [.o 999]),(997,.box [vi p_c.Id,vi p_c.Ver,.s (mI p_c.Servers)]),(996,.box [.s (mU p_data)])] Q6 J4 rfl ?_
  refine bl ?_
  refine Ok.loop (fun (s1:Int×(List api_Disk))=>⟨Cat.tab [(3,vi p_upto),(10,.o 999),(11,.c (.func 59) [] [.b 998 0,.b 997 0,.b 996 0]),(26,.s (mI p_c.Servers)),(27,vi (p_c.Servers.length:Int)),(28,vi s1.1)],[(999,.own 29 3 (mA s1.2)),(998,.box [.o 999]),(997,.box [vi p_c.Id,vi p_c.Ver,.s (mI p_c.Servers)]),(996,.box [.s (mU p_data)])]⟩) (chainN25 p_c p_upto p_data) (s0:=(0,x1)) h (wt Q6 ⟨⟨_,rfl,.refl _⟩,⟨_,rfl,.refl _⟩,⟨_,rfl,.refl _⟩,⟨_,rfl,.refl _⟩,Q0⟩ rfl) ?_
  intro s1 y1 hB1 hy1
  unfold chainN25 at hB1
  refine sg ?_
  refine sq ?_
  refine cn 29 (decide (s1.1 < (p_c.Servers.length:Int))) rfl hB1 (fun hb hB1=>?_) fun hb hB1=>?_
  ·refine sk ?_
   refine sq ?_
   refine bl ?_
   refine sg ?_
   obtain ⟨x2,hx2,hB1⟩:=bindS hB1
   refine ⟨_,idx_nat hx2,_,idx_row hx2,_,rfl,?_⟩
   refine wT [(3,vi p_upto),(10,.o 999),(11,.c (.func 59) [] [.b 998 0,.b 997 0,.b 996 0]),(12,vi s1.1),(13,vi x2),(26,.s (mI p_c.Servers)),(27,vi (p_c.Servers.length:Int)),(28,vi s1.1)] [(999,.own 29 3 (mA s1.2)),(998,.box [.o 999]),(997,.box [vi p_c.Id,vi p_c.Ver,.s (mI p_c.Servers)]),(996,.box [.s (mU p_data)])] Q8 J4 rfl ?_
   refine sq ?_
   obtain ⟨v2,hv2,hB1⟩:=bindS hB1
   refine Ok.seqw ⟨Cat.tab [(3,vi p_upto),(10,.o 999),(11,.c (.func 59) [] [.b 998 0,.b 997 0,.b 996 0]),(13,vi x2),(26,.s (mI p_c.Servers)),(27,vi (p_c.Servers.length:Int)),(28,vi s1.1),(42,vb v2)],[(999,.own 29 3 (mA s1.2)),(998,.box [.o 999]),(997,.box [vi p_c.Id,vi p_c.Ver,.s (mI p_c.Servers)]),(996,.box [.s (mU p_data)])]⟩ ?_ ?_
   ·refine rg ?_
    obtain ⟨c1,hg1,hv2⟩:=bindS hv2
    refine Br.itf hg1 (fun hb hg1=>?_) fun hb hg1=>?_
    ·cases hg1
     cases hv2
     exact wt Q8 J4 rfl
    obtain ⟨x3,hx3,hg1⟩:=bindS hg1
    refine ⟨_,idx_nat hx3,idx_ltm hx3,_,idx_row hx3,rfl,_,rfl,?_⟩
    cases hg1
    cases hv2
    exact wt Q8 J4 rfl
   refine cn 42 (v2) rfl hB1 (fun hb hB1=>?_) fun hb hB1=>?_
   ·refine sg ?_
    refine wT [(8,.o 999),(9,vb false)] [(999,.own 29 3 (mA s1.2))] Q2 J1 rfl ?_
    refine rt ?_
    have hB1:=out_ret hB1 hy1
    cases hB1
    exact (Fz.t (.cons (Fz.o rfl) (.cons Fz.v .nil)))
   refine sk ?_
   refine rg ?_
   obtain ⟨x4,hx4,hB1⟩:=bindS hB1
   refine CallOk.gen (m:=[(1000,998),(1001,999),(1002,997),(1003,996)]) (n:=[]) (wg_chainN5 hx4) (.cons (Ln.imm rfl) (.cons (Ln.b rfl) (.cons (Ln.b rfl) (.cons (Ln.b rfl) (.nil))))) ⟨⟨998,_,rfl,rfl,.box (.cons (Ln.o rfl) (.nil))⟩,⟨999,_,rfl,rfl,.refl rfl⟩,⟨997,_,rfl,rfl,.box (.cons (Ln.imm rfl) (.cons (Ln.imm rfl) (.cons (Ln.imm rfl) (.nil))))⟩,⟨996,_,rfl,rfl,.box (.cons (Ln.imm rfl) (.nil))⟩,Q0⟩ rfl rfl rfl ?_
   refine wT [(3,vi p_upto),(10,.o 999),(11,.c (.func 59) [] [.b 998 0,.b 997 0,.b 996 0]),(26,.s (mI p_c.Servers)),(27,vi (p_c.Servers.length:Int)),(28,vi s1.1)] [(999,.own 29 3 (mA x4)),(998,.box [.o 999]),(997,.box [vi p_c.Id,vi p_c.Ver,.s (mI p_c.Servers)]),(996,.box [.s (mU p_data)])] Q6 J4 rfl ?_
   refine rg ?_
   obtain ⟨hc1,hB1⟩:=chk_some hB1
   refine (Or.inl ⟨hc1,?_⟩)
   exact ⟨_,sj hB1,wt Q6 J4 rfl⟩
  refine xt ?_
  have hB1:=out_ret hB1 hy1
  exact ⟨_,hB1,wt Q1 ⟨⟨_,rfl,.refl _⟩,Q0⟩ rfl⟩
 intro v1 h
 unfold chainN27 at h
 refine sg ?_
 refine wT [(8,.o 999),(9,vb true)] [(999,.own 29 3 (mA v1))] Q2 J1 rfl ?_
 refine rt ?_
 cases h
 exact (Fz.t (.cons (Fz.o rfl) (.cons Fz.v .nil)))
theorem w_slicesN13 {self} {r} (h:slicesN82 self=some r):PChg Tryz.prog 118 [(.o 1000)] (.own 110 2 (mB self)) (fun x c=>x=(.t [])∧c=.own 110 2 (mB r.2)):=by
 refine pchg_of_ok (n:=28) (c:=Tryz.f118.body.getD .skip) Tryz.tok Tryz.func118 (by kernel_rfl) rfl rfl (Nat.le_of_ble_eq_true rfl) ?_
 unfold slicesN82 at h
 refine wT [(0,.o 1000)] [(1000,.own 110 2 (mB self))] Q1 J1 rfl ?_
 refine sg ?_
 obtain ⟨hc1,h⟩:=chk_some h
 refine ⟨_,List.length_map _,fun _=>(Or.inl ⟨hc1,?_⟩)⟩
 refine wT [(0,.o 1000),(2,vi (0)),(3,vi ((self.length:Int) - 1))] [(1000,.own 110 2 (mB self))] Q3 J1 rfl ?_
 refine bl ?_
 refine Ok.loop (fun (s1:Int×Int×(List api_Page))=>⟨Cat.tab [(0,.o 1000),(2,vi s1.1),(3,vi s1.2.1)],[(1000,.own 110 2 (mB s1.2.2))]⟩) (slicesN84) (s0:=(0,(self.length:Int) - 1,self)) h (wt Q3 ⟨⟨_,rfl,.refl _⟩,Q0⟩ rfl) ?_
 intro s1 y1 hB1 hy1
 unfold slicesN84 at hB1
 refine sq ?_
 refine sg ?_
 refine wT [(0,.o 1000),(2,vi s1.1),(3,vi s1.2.1),(9,vb (decide (s1.1 < s1.2.1)))] [(1000,.own 110 2 (mB s1.2.2))] Q4 J1 rfl ?_
 refine cn 9 (decide (s1.1 < s1.2.1)) rfl hB1 (fun hb hB1=>?_) fun hb hB1=>?_
 ·refine sk ?_
  refine sq ?_
  refine bl ?_
  refine Ok.draw2 (m:=13) (late:=[2,3]) (MD:=⟨[]⟩) (CH:=⟨[]⟩) Tryz.tok Tryz.mixed (by kernel_rfl) ?_
  obtain ⟨x1,hx1,hB1⟩:=bindS hB1
  obtain ⟨x2,hx2,hB1⟩:=bindS hB1
  obtain ⟨x3,hx3,hB1⟩:=bindS hB1
  refine ⟨_,rfl,_,rfl,_,rfl,_,rfl,_,rfl,_,rfl,_,⟨_,idx_nat hx1,idx_ltm hx1,rfl⟩,_,⟨_,idx_row hx1,rfl,_,rfl,rfl⟩,_,rfl,_,rfl,_,⟨_,idx_nat hx2,idx_ltm hx2,rfl⟩,_,⟨_,idx_row hx2,rfl,_,rfl,rfl⟩,_,⟨_,idx_nat hx3,idx_ltm hx3,rfl⟩,Q0,?_⟩
  obtain ⟨x4,hx4,hB1⟩:=bindS hB1
  refine ⟨_,idx_row hx3,rfl,_,rfl,_,set_row (f:=c_api_Page) (x:=x1),⟨⟨_,rfl,rfl⟩,⟨_,rfl,rfl⟩,Q0⟩,_,idx_nat hx4,idx_ltm hx4,_,idx_row hx4,rfl,_,rfl,_,set_row (f:=c_api_Page) (x:=x2),?_⟩
  refine wT [(0,.o 1000),(2,vi s1.1),(3,vi s1.2.1)] [(1000,.own 110 2 (mB ((s1.2.2.set s1.1.toNat x1).set s1.2.1.toNat x2)))] Q3 J1 rfl ?_
  refine rg ?_
  obtain ⟨hc2,hB1⟩:=chk_some hB1
  obtain ⟨hc3,hB1⟩:=chk_some hB1
  refine (Or.inl ⟨hc2,(Or.inl ⟨hc3,?_⟩)⟩)
  exact ⟨_,sj hB1,wt Q3 J1 rfl⟩
 refine xt ?_
 have hB1:=out_ret hB1 hy1
 cases hB1
 exact ⟨_,_,⟨rfl,rfl⟩,rfl,rfl,(Fz.t .nil)⟩
theorem w_diskN2 {p_p} {p_a1_0} {r} (h:disk_Read_1 p_p p_a1_0=some r):Pure Tryz.prog 119 [(.a [(vi p_p.At),(.s (mU p_p.Data))]),(.p [(vi p_a1_0)])] (vb r):=by
 refine po Tryz.tok 8 Tryz.func119 (by kernel_rfl) rfl rfl rfl ?_
 unfold disk_Read_1 at h
 refine wE [(0,.a [vi p_p.At,.s (mU p_p.Data)]),(1,.p [vi p_a1_0])] Q2 ?_
 refine sg ?_
 refine wT [(1,.p [vi p_a1_0]),(2,.b 2 0)] [(2,.box [vi p_p.At,.s (mU p_p.Data)])] Q2 J1 rfl ?_
 refine sg ?_
 refine ⟨_,rfl,_,rfl,?_⟩
 refine wE [(3,vb (p_p.At == p_a1_0))] Q1 ?_
 refine rt ?_
 cases h
 exact Fz.v
theorem w_slicesN7 {p_s} {p_f_c0_0} {r} (h:slicesN43 p_s p_f_c0_0=some r):Pure Tryz.prog 113 [(.s (mB p_s)),(.c (.func 119) [] [(.p [(vi p_f_c0_0)])])] (vi r):=by
 refine po Tryz.tok 19 Tryz.func113 (by kernel_rfl) rfl rfl rfl ?_
 unfold slicesN43 at h
 refine wE [(0,.s (mB p_s)),(1,.c (.func 119) [] [.p [vi p_f_c0_0]])] Q2 ?_
 refine sg ?_
 refine wE [(0,.s (mB p_s)),(1,.c (.func 119) [] [.p [vi p_f_c0_0]])] Q2 ?_
 refine Ok.seqj (fun v1=>⟨Cat.tab [],[]⟩) (fun v1=>slicesN47 v1=some r) ?_ ?_
 ·refine sg ?_
  refine ⟨_,List.length_map _,fun _=>?_⟩
  refine wE [(0,.s (mB p_s)),(1,.c (.func 119) [] [.p [vi p_f_c0_0]]),(7,vi (p_s.length:Int)),(8,vi (0))] Q4 ?_
  refine bl ?_
  refine Ok.loop (fun (s1:Int)=>⟨Cat.tab [(0,.s (mB p_s)),(1,.c (.func 119) [] [.p [vi p_f_c0_0]]),(7,vi (p_s.length:Int)),(8,vi s1)],[]⟩) (slicesN45 p_s p_f_c0_0) (s0:=0) h (wt Q4 Q0 rfl) ?_
  intro s1 y1 hB1 hy1
  unfold slicesN45 at hB1
  refine sg ?_
  refine wE [(0,.s (mB p_s)),(1,.c (.func 119) [] [.p [vi p_f_c0_0]]),(7,vi (p_s.length:Int)),(8,vi s1),(9,vb (decide (s1 < (p_s.length:Int))))] Q5 ?_
  refine sq ?_
  refine cn 9 (decide (s1 < (p_s.length:Int))) rfl hB1 (fun hb hB1=>?_) fun hb hB1=>?_
  ·refine sk ?_
   refine sq ?_
   refine bl ?_
   refine sg ?_
   refine wE [(0,.s (mB p_s)),(1,.c (.func 119) [] [.p [vi p_f_c0_0]]),(5,vi s1),(7,vi (p_s.length:Int)),(8,vi s1)] Q5 ?_
   refine sg ?_
   obtain ⟨x1,hx1,hB1⟩:=bindS hB1
   obtain ⟨x2,hx2,hB1⟩:=bindS hB1
   refine ⟨_,idx_nat hx1,_,idx_row hx1,_,rfl,?_⟩
   refine CallOk.call (w_diskN2 hx2) (LeL.refl _) ?_
   refine wE [(0,.s (mB p_s)),(1,.c (.func 119) [] [.p [vi p_f_c0_0]]),(5,vi s1),(7,vi (p_s.length:Int)),(8,vi s1),(16,vb x2)] Q6 ?_
   refine cn 16 (x2) rfl hB1 (fun hb hB1=>?_) fun hb hB1=>?_
   ·refine sg ?_
    refine wE [(4,vi s1)] Q1 ?_
    refine rt ?_
    have hB1:=out_ret hB1 hy1
    cases hB1
    exact Fz.v
   refine sk ?_
   refine rg ?_
   obtain ⟨hc1,hB1⟩:=chk_some hB1
   refine (Or.inl ⟨hc1,?_⟩)
   exact ⟨_,sj hB1,wt Q4 Q0 rfl⟩
  refine xt ?_
  have hB1:=out_ret hB1 hy1
  exact ⟨_,hB1,wt Q0 Q0 rfl⟩
 intro v1 h
 unfold slicesN47 at h
 refine sg ?_
 refine wE [(4,vi (-1))] Q1 ?_
 refine rt ?_
 cases h
 exact Fz.v
theorem w_diskN5 {p_l} {p_is_c0} {r} (h:diskN1 p_l p_is_c0=some r):Pure Tryz.prog 79 [(.s (mB p_l)),(.c (.func 119) [] [(.p [(vi p_is_c0)])])] (vi r):=by
 refine po Tryz.tok 8 Tryz.func79 (by kernel_rfl) rfl rfl rfl ?_
 unfold diskN1 at h
 refine wE [(0,.s (mB p_l)),(1,.c (.func 119) [] [.p [vi p_is_c0]])] Q2 ?_
 refine sg ?_
 refine wE [(0,.s (mB p_l)),(1,.c (.func 119) [] [.p [vi p_is_c0]])] Q2 ?_
 refine sg ?_
 obtain ⟨x1,hx1,h⟩:=bindS h
 refine CallOk.call (w_slicesN7 hx1) (LeL.refl _) ?_
 refine wE [(4,vi x1)] Q1 ?_
 refine rt ?_
 cases h
 exact Fz.v
theorem w_disk_Read {p_d} {p_at} {r} (h:disk_Read p_d p_at=some r):Pure Tryz.prog 90 [(.a [(.s (mB p_d.Synced)),(.s (mB p_d.Loose)),(vb p_d.Down)]),(vi p_at)] (.t [(.s (mU r.1)),(vi r.2)]):=by
 refine po Tryz.tok 34 Tryz.func90 (by kernel_rfl) rfl rfl rfl ?_
 unfold disk_Read at h
 refine wE [(0,.a [.s (mB p_d.Synced),.s (mB p_d.Loose),vb p_d.Down]),(1,vi p_at)] Q2 ?_
 refine sg ?_
 refine wT [(2,.b 2 0),(3,.b 3 0)] [(2,.box [.s (mB p_d.Synced),.s (mB p_d.Loose),vb p_d.Down]),(3,.box [vi p_at])] Q2 J2 rfl ?_
 refine sq ?_
 refine bl ?_
 refine sg ?_
 refine ⟨_,rfl,?_⟩
 refine wT [(2,.b 2 0),(3,.b 3 0),(8,vb p_d.Down)] [(2,.box [.s (mB p_d.Synced),.s (mB p_d.Loose),vb p_d.Down]),(3,.box [vi p_at])] Q3 J2 rfl ?_
 refine cn 8 (p_d.Down) rfl h (fun hb h=>?_) fun hb h=>?_
 ·refine sg ?_
  refine wE [(4,.v (.slice none 0 0)),(5,vi (40))] Q2 ?_
  refine rt ?_
  cases h
  exact (Fz.t (.cons Fz.nil (.cons Fz.v .nil)))
 refine sg ?_
 obtain ⟨x1,hx1,h⟩:=bindS h
 refine ⟨_,rfl,?_⟩
 refine CallOk.call (w_disk_may hx1) (.cons (lr) (.cons (Le.nil) (.nil))) ?_
 refine wT [(2,.b 2 0),(3,.b 3 0),(11,vb (!x1))] [(2,.box [.s (mB p_d.Synced),.s (mB p_d.Loose),vb p_d.Down]),(3,.box [vi p_at])] Q3 J2 rfl ?_
 refine cn 11 (!x1) rfl h (fun hb h=>?_) fun hb h=>?_
 ·refine sg ?_
  refine wE [(4,.v (.slice none 0 0)),(5,vi (1))] Q2 ?_
  refine rt ?_
  cases h
  exact (Fz.t (.cons Fz.nil (.cons Fz.v .nil)))
 refine sk ?_
 refine sg ?_
 obtain ⟨x2,hx2,h⟩:=bindS h
 refine ⟨_,rfl,_,rfl,Or.inl ?_⟩
 refine CallOk.own (D:=20) (wo_slicesN5 hx2) (LeL.refl _) rfl ?_
 refine wT [(3,.b 3 0),(6,.o 20)] [(3,.box [vi p_at]),(20,.own 110 2 (mB x2))] Q2 J2 rfl ?_
 refine sg ?_
 obtain ⟨x3,hx3,h⟩:=bindS h
 refine CallOk.chgLe (id:=20) (w_slicesN13 hx3) rfl (.refl _) rfl (.cons (Lr.o) (.nil)) ?_
 rintro _ _ ⟨rfl,rfl⟩
 refine wT [(3,.b 3 0),(6,.o 20)] [(3,.box [vi p_at]),(20,.own 110 2 (mB x3.2))] Q2 J2 rfl ?_
 refine sg ?_
 obtain ⟨x4,hx4,h⟩:=bindS h
 refine CallOk.borrow (w_diskN5 hx4) (.cons (Fz.o rfl) (.cons (Fz.c .nil (.cons (Fz.b rfl rfl) .nil)) (.nil))) rfl ?_
 refine wT [(6,.o 20),(7,vi x4)] [(20,.own 110 2 (mB x3.2))] Q2 J1 rfl ?_
 refine sq ?_
 refine sg ?_
 refine wT [(6,.o 20),(7,vi x4),(27,vb (decide (x4 < 0)))] [(20,.own 110 2 (mB x3.2))] Q3 J1 rfl ?_
 refine cn 27 (decide (x4 < 0)) rfl h (fun hb h=>?_) fun hb h=>?_
 ·refine sg ?_
  refine wE [(4,.v (.slice none 0 0)),(5,vi (41))] Q2 ?_
  refine rt ?_
  cases h
  exact (Fz.t (.cons Fz.nil (.cons Fz.v .nil)))
 refine sk ?_
 refine sg ?_
 obtain ⟨x5,hx5,h⟩:=bindS h
 obtain ⟨x6,hx6,h⟩:=bindS h
 refine ⟨_,idx_nat hx5,idx_ltm hx5,_,idx_row hx5,rfl,_,rfl,?_⟩
 refine CallOk.call (w_bytesN1 hx6) (LeL.refl _) ?_
 refine wE [(4,.s (mU x6)),(5,vi (0))] Q2 ?_
 refine rt ?_
 cases h
 exact (Fz.t (.cons Fz.s (.cons Fz.v .nil)))
theorem w_chunkN7 {p_d} {p_id} {r} (h:chunk_there p_d p_id=some r):Pure Tryz.prog 67 [(.a [(.s (mB p_d.Synced)),(.s (mB p_d.Loose)),(vb p_d.Down)]),(vi p_id)] (.t [(.s (mU r.1)),(vi r.2)]):=by
 refine po Tryz.tok 26 Tryz.func67 (by kernel_rfl) rfl rfl rfl ?_
 unfold chunk_there at h
 refine wE [(0,.a [.s (mB p_d.Synced),.s (mB p_d.Loose),vb p_d.Down]),(1,vi p_id)] Q2 ?_
 refine sg ?_
 refine wT [(1,vi p_id),(2,.b 2 0)] [(2,.box [.s (mB p_d.Synced),.s (mB p_d.Loose),vb p_d.Down])] Q2 J1 rfl ?_
 refine sq ?_
 refine sg ?_
 obtain ⟨x1,hx1,h⟩:=bindS h
 refine CallOk.call (w_chunkN8 hx1) (LeL.refl _) ?_
 refine wT [(1,vi p_id),(2,.b 2 0),(10,vb (!x1))] [(2,.box [.s (mB p_d.Synced),.s (mB p_d.Loose),vb p_d.Down])] Q3 J1 rfl ?_
 refine cn 10 (!x1) rfl h (fun hb h=>?_) fun hb h=>?_
 ·refine sg ?_
  refine wE [(4,.v (.slice none 0 0)),(5,vi (1))] Q2 ?_
  refine rt ?_
  cases h
  exact (Fz.t (.cons Fz.nil (.cons Fz.v .nil)))
 refine sk ?_
 refine sg ?_
 obtain ⟨x2,hx2,h⟩:=bindS h
 refine ⟨_,rfl,?_⟩
 refine CallOk.call (w_disk_Read hx2) (LeL.refl _) ?_
 refine wE [(6,.s (mU x2.1)),(7,vi x2.2)] Q2 ?_
 refine sq ?_
 obtain ⟨v1,hv1,h⟩:=bindS h
 refine Ok.seqw ⟨Cat.tab [(6,.s (mU x2.1)),(7,vi x2.2),(23,vb v1)],[]⟩ ?_ ?_
 ·refine rg ?_
  obtain ⟨c1,hg1,hv1⟩:=bindS hv1
  refine Br.ite hg1 (fun hb hg1=>?_) fun hb hg1=>?_
  ·refine ⟨_,List.length_map _,fun _=>?_⟩
   cases hg1
   cases hv1
   exact wt Q3 Q0 rfl
  cases hg1
  cases hv1
  exact wt Q3 Q0 rfl
 refine cn 23 (v1) rfl h (fun hb h=>?_) fun hb h=>?_
 ·refine sg ?_
  refine wE [(4,.v (.slice none 0 0)),(5,vi (41))] Q2 ?_
  refine rt ?_
  cases h
  exact (Fz.t (.cons Fz.nil (.cons Fz.v .nil)))
 refine sk ?_
 refine sg ?_
 refine wE [(4,.s (mU x2.1)),(5,vi x2.2)] Q2 ?_
 refine rt ?_
 cases h
 exact (Fz.t (.cons Fz.s (.cons Fz.v .nil)))
theorem w_packN1 {p_b} {r} (h:packN3 p_b=some r):Pure Tryz.prog 121 [(.s (mU p_b))] (.t [(vi r.1),(.s (mU r.2.1)),(vi r.2.2)]):=by
 refine po Tryz.tok 50 Tryz.func121 (by kernel_rfl) rfl rfl rfl ?_
 unfold packN3 at h
 refine wE [(0,.s (mU p_b))] Q1 ?_
 refine sg ?_
 refine wE [(0,.s (mU p_b))] Q1 ?_
 refine sg ?_
 refine wE [(0,.s (mU p_b)),(5,.v (.int .u64 (0)))] Q2 ?_
 refine Ok.seqj (fun v1=>⟨Cat.tab [],[]⟩) (fun v1=>packN7 v1=some r) ?_ ?_
 ·refine sg ?_
  refine ⟨_,List.length_map _,fun _=>?_⟩
  refine wE [(0,.s (mU p_b)),(5,.v (.int .u64 (0))),(8,.s (mU p_b)),(9,vi (p_b.length:Int)),(10,vi (0))] Q5 ?_
  refine bl ?_
  refine Ok.loop (fun (s1:Int×Int)=>⟨Cat.tab [(0,.s (mU p_b)),(5,.v (.int .u64 s1.1)),(8,.s (mU p_b)),(9,vi (p_b.length:Int)),(10,vi s1.2)],[]⟩) (packN5 p_b) (s0:=(0,0)) h (wt Q5 Q0 rfl) ?_
  intro s1 y1 hB1 hy1
  unfold packN5 at hB1
  refine sg ?_
  refine wE [(0,.s (mU p_b)),(5,.v (.int .u64 s1.1)),(8,.s (mU p_b)),(9,vi (p_b.length:Int)),(10,vi s1.2),(11,vb (decide (s1.2 < (p_b.length:Int))))] Q6 ?_
  refine sq ?_
  refine cn 11 (decide (s1.2 < (p_b.length:Int))) rfl hB1 (fun hb hB1=>?_) fun hb hB1=>?_
  ·refine sk ?_
   refine sq ?_
   refine bl ?_
   refine sg ?_
   obtain ⟨x1,hx1,hB1⟩:=bindS hB1
   refine ⟨_,idx_nat hx1,_,idx_row hx1,_,rfl,?_⟩
   refine wE [(0,.s (mU p_b)),(5,.v (.int .u64 s1.1)),(6,vi s1.2),(7,vu x1),(8,.s (mU p_b)),(9,vi (p_b.length:Int)),(10,vi s1.2)] Q7 ?_
   refine sq ?_
   obtain ⟨v2,hv2,hB1⟩:=bindS hB1
   refine Ok.seqw ⟨Cat.tab [(0,.s (mU p_b)),(5,.v (.int .u64 s1.1)),(6,vi s1.2),(7,vu x1),(8,.s (mU p_b)),(9,vi (p_b.length:Int)),(10,vi s1.2),(20,vb v2)],[]⟩ ?_ ?_
   ·refine rg ?_
    obtain ⟨c1,hg1,hv2⟩:=bindS hv2
    refine Br.ite hg1 (fun hb hg1=>?_) fun hb hg1=>?_
    ·cases hg1
     cases hv2
     exact wt Q8 Q0 rfl
    cases hg1
    cases hv2
    exact wt Q8 Q0 rfl
   refine cn 20 (v2) rfl hB1 (fun hb hB1=>?_) fun hb hB1=>?_
   ·refine sg ?_
    refine wE [(2,vi (0)),(3,.v (.slice none 0 0)),(4,vi (11))] Q3 ?_
    refine rt ?_
    have hB1:=out_ret hB1 hy1
    cases hB1
    exact (Fz.t (.cons Fz.v (.cons Fz.nil (.cons Fz.v .nil))))
   refine sk ?_
   refine sg ?_
   obtain ⟨hc1,hB1⟩:=chk_some hB1
   obtain ⟨hc2,hB1⟩:=chk_some hB1
   refine ⟨_,b8_and x1 (127:UInt8),_,wrap_of_u8 (k:=.u64) (by decide) _,(Or.inl ⟨hc1,hc2,_,rfl,_,rfl,?_⟩)⟩
   refine wE [(0,.s (mU p_b)),(5,.v (.int .u64 (orK .u64 s1.1 (shlK .u64 ((x1 &&& (127:UInt8)).toNat:Int) (7 * s1.2))))),(6,vi s1.2),(7,vu x1),(8,.s (mU p_b)),(9,vi (p_b.length:Int)),(10,vi s1.2)] Q7 ?_
   refine sq ?_
   refine sg ?_
   refine cn 30 (decide ((x1.toNat:Int)≥128)) rfl hB1 (fun hb hB1=>?_) fun hb hB1=>?_
   ·refine xt ?_
    refine rg ?_
    obtain ⟨hc3,hB1⟩:=chk_some hB1
    refine (Or.inl ⟨hc3,?_⟩)
    exact ⟨_,sj hB1,wt Q5 Q0 rfl⟩
   refine sk ?_
   refine sq ?_
   obtain ⟨v3,hv3,hB1⟩:=bindS hB1
   refine Ok.seqw ⟨Cat.tab [(0,.s (mU p_b)),(5,.v (.int .u64 (orK .u64 s1.1 (shlK .u64 ((x1 &&& (127:UInt8)).toNat:Int) (7 * s1.2))))),(6,vi s1.2),(36,vb v3)],[]⟩ ?_ ?_
   ·refine rg ?_
    obtain ⟨c2,hg2,hv3⟩:=bindS hv3
    refine Br.ite hg2 (fun hb hg2=>?_) fun hb hg2=>?_
    ·cases hg2
     cases hv3
     exact wt Q4 Q0 rfl
    cases hg2
    cases hv3
    exact wt Q4 Q0 rfl
   refine cn 36 (v3) rfl hB1 (fun hb hB1=>?_) fun hb hB1=>?_
   ·refine sg ?_
    refine wE [(2,vi (0)),(3,.v (.slice none 0 0)),(4,vi (11))] Q3 ?_
    refine rt ?_
    have hB1:=out_ret hB1 hy1
    cases hB1
    exact (Fz.t (.cons Fz.v (.cons Fz.nil (.cons Fz.v .nil))))
   refine sk ?_
   refine sq ?_
   refine Ok.draw (m:=15) (MD:=⟨[]⟩) (CH:=⟨[]⟩) Tryz.tok Tryz.mixed (by kernel_rfl) ?_
   obtain ⟨hc4,hB1⟩:=chk_some hB1
   obtain ⟨hc5,hB1⟩:=chk_some hB1
   obtain ⟨hc6,hB1⟩:=chk_some hB1
   refine ⟨_,rfl,_,⟨(by decide),_,rfl,rfl⟩,_,⟨_,rfl,rfl⟩,_,rfl,_,⟨_,rfl,rfl⟩,_,⟨_,rfl,rfl⟩,_,⟨_,InI64.wrap hc4,rfl⟩,_,⟨_,rfl,rfl⟩,_,rfl,_,rfl,_,Or.inl ⟨hc5,rfl⟩,_,⟨_,sl_nat hc6.1,sl_len hc6,Nat.le_refl _,rowsK (f:=cU8) (K:=1) (fun _=>rfl) p_b,_,sl_drop _ _ _,rfl⟩,_,rfl,_,rfl,_,rfl,Q0,?_⟩
   refine wE [(2,vi (xorK .i64 (IntKind.i64.wrap (shrK .u64 (orK .u64 s1.1 (shlK .u64 ((x1 &&& (127:UInt8)).toNat:Int) (7 * s1.2))) (1))) (0 - (IntKind.i64.wrap (andK .u64 (orK .u64 s1.1 (shlK .u64 ((x1 &&& (127:UInt8)).toNat:Int) (7 * s1.2))) (1)))))),(3,.s (mU (p_b.drop (s1.2+1).toNat))),(4,vi (0))] Q3 ?_
   refine rt ?_
   have hB1:=out_ret hB1 hy1
   cases hB1
   exact (Fz.t (.cons Fz.v (.cons Fz.s (.cons Fz.v .nil))))
  refine xt ?_
  have hB1:=out_ret hB1 hy1
  exact ⟨_,hB1,wt Q0 Q0 rfl⟩
 intro v1 h
 unfold packN7 at h
 refine sg ?_
 refine wE [(2,vi (0)),(3,.v (.slice none 0 0)),(4,vi (10))] Q3 ?_
 refine rt ?_
 cases h
 exact (Fz.t (.cons Fz.v (.cons Fz.nil (.cons Fz.v .nil))))
theorem w_chunkN4 {self} {r} (h:chunkN9 self=some r):PChg Tryz.prog 120 [(.b 1000 0),(.c (.func 121) [] [])] (.box [(.s (mU self.b_)),(vb self.bad_)]) (fun x c=>x=(vi r.1)∧c=.box [(.s (mU r.2.b_)),(vb r.2.bad_)]):=by
 refine pchg_of_ok (n:=36) (c:=Tryz.f120.body.getD .skip) Tryz.tok Tryz.func120 (by kernel_rfl) rfl rfl (Nat.le_of_ble_eq_true rfl) ?_
 unfold chunkN9 at h
 refine wT [(0,.b 1000 0),(1,.c (.func 121) [] [])] [(1000,.box [.s (mU self.b_),vb self.bad_])] Q2 J1 rfl ?_
 refine sg ?_
 refine wT [(0,.b 1000 0),(1,.c (.func 121) [] [])] [(1000,.box [.s (mU self.b_),vb self.bad_])] Q2 J1 rfl ?_
 refine sg ?_
 obtain ⟨x1,hx1,h⟩:=bindS h
 refine ⟨_,rfl,?_⟩
 refine CallOk.call (w_packN1 hx1) (LeL.refl _) ?_
 refine wT [(0,.b 1000 0),(5,vi x1.1),(6,.s (mU x1.2.1)),(7,vi x1.2.2)] [(1000,.box [.s (mU self.b_),vb self.bad_])] Q4 J1 rfl ?_
 refine sq ?_
 obtain ⟨v1,hv1,h⟩:=bindS h
 refine Ok.seqw ⟨Cat.tab [(0,.b 1000 0),(5,vi x1.1),(6,.s (mU x1.2.1)),(26,vb v1)],[(1000,.box [.s (mU self.b_),vb self.bad_])]⟩ ?_ ?_
 ·refine rg ?_
  refine ⟨_,rfl,?_⟩
  obtain ⟨c1,hg1,hv1⟩:=bindS hv1
  refine Br.itf hg1 (fun hb hg1=>?_) fun hb hg1=>?_
  ·cases hg1
   cases hv1
   exact wt Q4 J1 rfl
  cases hg1
  cases hv1
  exact wt Q4 J1 rfl
 refine cn 26 (v1) rfl h (fun hb h=>?_) fun hb h=>?_
 ·refine sg ?_
  refine ⟨_,rfl,?_⟩
  refine wT [] [(1000,.box [.s (mU self.b_),vb true])] Q0 J1 rfl ?_
  refine sg ?_
  refine wT [(8,vi (0))] [(1000,.box [.s (mU self.b_),vb true])] Q1 J1 rfl ?_
  refine sg ?_
  refine wT [(4,vi (0))] [(1000,.box [.s (mU self.b_),vb true])] Q1 J1 rfl ?_
  refine rt ?_
  cases h
  exact ⟨_,_,⟨rfl,rfl⟩,rfl,rfl,Fz.v⟩
 refine sk ?_
 refine sg ?_
 refine ⟨_,rfl,?_⟩
 refine wT [(5,vi x1.1)] [(1000,.box [.s (mU x1.2.1),vb self.bad_])] Q1 J1 rfl ?_
 refine sg ?_
 refine wT [(4,vi x1.1)] [(1000,.box [.s (mU x1.2.1),vb self.bad_])] Q1 J1 rfl ?_
 refine rt ?_
 cases h
 exact ⟨_,_,⟨rfl,rfl⟩,rfl,rfl,Fz.v⟩
theorem w_chunkN3 {self} {r} (h:chunkN7 self=some r):PChg Tryz.prog 91 [(.b 1000 0)] (.box [(.s (mU self.b_)),(vb self.bad_)]) (fun x c=>x=(vi r.1)∧c=.box [(.s (mU r.2.b_)),(vb r.2.bad_)]):=by
 refine pchg_of_ok (n:=5) (c:=Tryz.f91.body.getD .skip) Tryz.tok Tryz.func91 (by kernel_rfl) rfl rfl (Nat.le_of_ble_eq_true rfl) ?_
 unfold chunkN7 at h
 refine wT [(0,.b 1000 0)] [(1000,.box [.s (mU self.b_),vb self.bad_])] Q1 J1 rfl ?_
 refine sg ?_
 refine wT [(0,.b 1000 0)] [(1000,.box [.s (mU self.b_),vb self.bad_])] Q1 J1 rfl ?_
 refine sg ?_
 obtain ⟨x1,hx1,h⟩:=bindS h
 refine CallOk.chgLe (id:=1000) (w_chunkN4 hx1) rfl (.box (.cons (lr) (.cons (lr) (.nil)))) rfl (.cons (Lr.b) (.cons (Lr.imm rfl) (.nil))) ?_
 rintro _ _ ⟨rfl,rfl⟩
 refine wT [(2,vi x1.1)] [(1000,.box [.s (mU x1.2.b_),vb x1.2.bad_])] Q1 J1 rfl ?_
 refine rt ?_
 cases h
 exact ⟨_,_,⟨rfl,rfl⟩,rfl,rfl,Fz.v⟩
theorem w_packN6 {self} {r} (h:packN27 self=some r):PChg Tryz.prog 124 [(.b 1000 0)] (.box [(.s (mU self.rest_.b_)),(vi self.e_)]) (fun x c=>x=(vi r.1)∧c=.box [(.s (mU r.2.rest_.b_)),(vi r.2.e_)]):=by
 refine pchg_of_ok (n:=31) (c:=Tryz.f124.body.getD .skip) Tryz.tok Tryz.func124 (by kernel_rfl) rfl rfl (Nat.le_of_ble_eq_true rfl) ?_
 unfold packN27 at h
 refine wT [(0,.b 1000 0)] [(1000,.box [.s (mU self.rest_.b_),vi self.e_])] Q1 J1 rfl ?_
 refine sg ?_
 refine wT [(0,.b 1000 0)] [(1000,.box [.s (mU self.rest_.b_),vi self.e_])] Q1 J1 rfl ?_
 refine sq ?_
 refine sg ?_
 refine ⟨_,rfl,?_⟩
 refine wT [(0,.b 1000 0),(10,vb (self.e_ != 0))] [(1000,.box [.s (mU self.rest_.b_),vi self.e_])] Q2 J1 rfl ?_
 refine cn 10 (self.e_ != 0) rfl h (fun hb h=>?_) fun hb h=>?_
 ·refine sg ?_
  refine wT [(2,vi (0))] [(1000,.box [.s (mU self.rest_.b_),vi self.e_])] Q1 J1 rfl ?_
  refine rt ?_
  cases h
  exact ⟨_,_,⟨rfl,rfl⟩,rfl,rfl,Fz.v⟩
 refine sk ?_
 refine sg ?_
 obtain ⟨x1,hx1,h⟩:=bindS h
 refine ⟨_,rfl,?_⟩
 refine CallOk.call (w_packN1 hx1) (LeL.refl _) ?_
 refine wT [(0,.b 1000 0),(3,vi x1.1),(4,.s (mU x1.2.1)),(5,vi x1.2.2)] [(1000,.box [.s (mU self.rest_.b_),vi self.e_])] Q4 J1 rfl ?_
 refine sg ?_
 refine ⟨_,rfl,_,rfl,?_⟩
 refine wT [(3,vi x1.1)] [(1000,.box [.s (mU x1.2.1),vi x1.2.2])] Q1 J1 rfl ?_
 refine sg ?_
 refine wT [(2,vi x1.1)] [(1000,.box [.s (mU x1.2.1),vi x1.2.2])] Q1 J1 rfl ?_
 refine rt ?_
 cases h
 exact ⟨_,_,⟨rfl,rfl⟩,rfl,rfl,Fz.v⟩
theorem w_packN5 {self} {r} (h:packN24 self=some r):PChg Tryz.prog 123 [(.b 1000 0)] (.box [(.s (mU self.rest_.b_)),(vi self.e_)]) (fun x c=>x=(vi r.1)∧c=.box [(.s (mU r.2.rest_.b_)),(vi r.2.e_)]):=by
 refine pchg_of_ok (n:=31) (c:=Tryz.f123.body.getD .skip) Tryz.tok Tryz.func123 (by kernel_rfl) rfl rfl (Nat.le_of_ble_eq_true rfl) ?_
 unfold packN24 at h
 refine wT [(0,.b 1000 0)] [(1000,.box [.s (mU self.rest_.b_),vi self.e_])] Q1 J1 rfl ?_
 refine sg ?_
 refine wT [(0,.b 1000 0)] [(1000,.box [.s (mU self.rest_.b_),vi self.e_])] Q1 J1 rfl ?_
 refine sg ?_
 obtain ⟨x1,hx1,h⟩:=bindS h
 refine CallOk.chgLe (id:=1000) (w_packN6 hx1) rfl (.box (.cons (lr) (.cons (lr) (.nil)))) rfl (.cons (Lr.b) (.nil)) ?_
 rintro _ _ ⟨rfl,rfl⟩
 refine wT [(0,.b 1000 0),(3,vi x1.1)] [(1000,.box [.s (mU x1.2.rest_.b_),vi x1.2.e_])] Q2 J1 rfl ?_
 refine Ok.seqj (fun v1=>⟨Cat.tab [],[(1000,.box [.s (mU x1.2.rest_.b_),vi v1])]⟩) (fun v1=>packN26 x1 v1=some r) ?_ ?_
 ·refine bl ?_
  refine sg ?_
  refine ⟨_,rfl,?_⟩
  refine wT [(0,.b 1000 0),(3,vi x1.1),(7,vb (x1.2.e_ != 0))] [(1000,.box [.s (mU x1.2.rest_.b_),vi x1.2.e_])] Q3 J1 rfl ?_
  refine cn 7 (x1.2.e_ != 0) rfl h (fun hb h=>?_) fun hb h=>?_
  ·refine sg ?_
   refine wT [(2,vi (0))] [(1000,.box [.s (mU x1.2.rest_.b_),vi x1.2.e_])] Q1 J1 rfl ?_
   refine rt ?_
   cases h
   exact ⟨_,_,⟨rfl,rfl⟩,rfl,rfl,Fz.v⟩
  refine sg ?_
  refine wT [(0,.b 1000 0),(3,vi x1.1),(13,vb (decide (x1.1 < 0)))] [(1000,.box [.s (mU x1.2.rest_.b_),vi x1.2.e_])] Q3 J1 rfl ?_
  refine cn 13 (decide (x1.1 < 0)) rfl h (fun hb h=>?_) fun hb h=>?_
  ·refine rg ?_
   refine ⟨_,rfl,?_⟩
   exact ⟨_,h,wt Q0 ⟨⟨_,rfl,.refl _⟩,Q0⟩ rfl⟩
  refine sg ?_
  refine ⟨_,rfl,_,List.length_map _,fun _=>?_⟩
  refine wT [(0,.b 1000 0),(3,vi x1.1),(19,vb (decide (x1.1 > (x1.2.rest_.b_.length:Int))))] [(1000,.box [.s (mU x1.2.rest_.b_),vi x1.2.e_])] Q3 J1 rfl ?_
  refine cn 19 (decide (x1.1 > (x1.2.rest_.b_.length:Int))) rfl h (fun hb h=>?_) fun hb h=>?_
  ·refine rg ?_
   refine ⟨_,rfl,?_⟩
   exact ⟨_,h,wt Q0 ⟨⟨_,rfl,.refl _⟩,Q0⟩ rfl⟩
  refine sg ?_
  refine wT [(2,vi x1.1)] [(1000,.box [.s (mU x1.2.rest_.b_),vi x1.2.e_])] Q1 J1 rfl ?_
  refine rt ?_
  cases h
  exact ⟨_,_,⟨rfl,rfl⟩,rfl,rfl,Fz.v⟩
 intro v1 h
 unfold packN26 at h
 refine sg ?_
 refine wT [(2,vi (0))] [(1000,.box [.s (mU x1.2.rest_.b_),vi v1])] Q1 J1 rfl ?_
 refine rt ?_
 cases h
 exact ⟨_,_,⟨rfl,rfl⟩,rfl,rfl,Fz.v⟩
theorem w_packN8 {self} {p_n} {r} (h:packN31 self p_n=some r):PChg Tryz.prog 136 [(.b 1000 0),(vi p_n)] (.box [(.s (mU self.rest_.b_)),(vi self.e_)]) (fun x c=>x=(.s (mU r.1))∧c=.box [(.s (mU r.2.rest_.b_)),(vi r.2.e_)]):=by
 refine pchg_of_ok (n:=22) (c:=Tryz.f136.body.getD .skip) Tryz.tok Tryz.func136 (by kernel_rfl) rfl rfl (Nat.le_of_ble_eq_true rfl) ?_
 unfold packN31 at h
 refine wT [(0,.b 1000 0),(1,vi p_n)] [(1000,.box [.s (mU self.rest_.b_),vi self.e_])] Q2 J1 rfl ?_
 refine sg ?_
 refine wT [(0,.b 1000 0),(1,vi p_n)] [(1000,.box [.s (mU self.rest_.b_),vi self.e_])] Q2 J1 rfl ?_
 refine sg ?_
 obtain ⟨hc1,h⟩:=chk_some h
 refine ⟨_,rfl,_,sl_nat hc1.1,Nat.zero_le _,sl_len hc1,rowsK (f:=cU8) (K:=1) (fun _=>rfl) self.rest_.b_,_,sl_take _ _ _,?_⟩
 refine wT [(0,.b 1000 0),(1,vi p_n),(5,.s (mU (self.rest_.b_.take p_n.toNat)))] [(1000,.box [.s (mU self.rest_.b_),vi self.e_])] Q3 J1 rfl ?_
 refine sg ?_
 obtain ⟨hc2,h⟩:=chk_some h
 refine ⟨_,rfl,_,sl_nat hc2.1,sl_len hc2,Nat.le_refl _,rowsK (f:=cU8) (K:=1) (fun _=>rfl) self.rest_.b_,_,sl_drop _ _ _,_,rfl,?_⟩
 refine wT [(5,.s (mU (self.rest_.b_.take p_n.toNat)))] [(1000,.box [.s (mU (self.rest_.b_.drop p_n.toNat)),vi self.e_])] Q1 J1 rfl ?_
 refine sg ?_
 refine wT [(4,.s (mU (self.rest_.b_.take p_n.toNat)))] [(1000,.box [.s (mU (self.rest_.b_.drop p_n.toNat)),vi self.e_])] Q1 J1 rfl ?_
 refine rt ?_
 cases h
 exact ⟨_,_,⟨rfl,rfl⟩,rfl,rfl,Fz.s⟩
theorem w_packN7 {self} {r} (h:packN29 self=some r):PChg Tryz.prog 122 [(.b 1000 0)] (.box [(.s (mU self.rest_.b_)),(vi self.e_)]) (fun x c=>x=(vs r.1)∧c=.box [(.s (mU r.2.rest_.b_)),(vi r.2.e_)]):=by
 refine pchg_of_ok (n:=17) (c:=Tryz.f122.body.getD .skip) Tryz.tok Tryz.func122 (by kernel_rfl) rfl rfl (Nat.le_of_ble_eq_true rfl) ?_
 unfold packN29 at h
 refine wT [(0,.b 1000 0)] [(1000,.box [.s (mU self.rest_.b_),vi self.e_])] Q1 J1 rfl ?_
 refine sg ?_
 refine wT [(0,.b 1000 0)] [(1000,.box [.s (mU self.rest_.b_),vi self.e_])] Q1 J1 rfl ?_
 refine sg ?_
 obtain ⟨x1,hx1,h⟩:=bindS h
 refine CallOk.chgLe (id:=1000) (w_packN5 hx1) rfl (.box (.cons (lr) (.cons (lr) (.nil)))) rfl (.cons (Lr.b) (.nil)) ?_
 rintro _ _ ⟨rfl,rfl⟩
 refine wT [(0,.b 1000 0),(3,vi x1.1)] [(1000,.box [.s (mU x1.2.rest_.b_),vi x1.2.e_])] Q2 J1 rfl ?_
 refine sq ?_
 refine sg ?_
 refine ⟨_,rfl,?_⟩
 refine wT [(0,.b 1000 0),(3,vi x1.1),(10,vb (x1.2.e_ != 0))] [(1000,.box [.s (mU x1.2.rest_.b_),vi x1.2.e_])] Q3 J1 rfl ?_
 refine cn 10 (x1.2.e_ != 0) rfl h (fun hb h=>?_) fun hb h=>?_
 ·refine sg ?_
  refine wT [(2,vs ([]))] [(1000,.box [.s (mU x1.2.rest_.b_),vi x1.2.e_])] Q1 J1 rfl ?_
  refine rt ?_
  cases h
  exact ⟨_,_,⟨rfl,rfl⟩,rfl,rfl,Fz.v⟩
 refine sk ?_
 refine sg ?_
 obtain ⟨x2,hx2,h⟩:=bindS h
 refine CallOk.chgLe (id:=1000) (w_packN8 hx2) rfl (.box (.cons (lr) (.cons (lr) (.nil)))) rfl (.cons (Lr.b) (.cons (Lr.imm rfl) (.nil))) ?_
 rintro _ _ ⟨rfl,rfl⟩
 refine ⟨_,rfl,?_⟩
 refine wT [(2,vs x2.1)] [(1000,.box [.s (mU x2.2.rest_.b_),vi x2.2.e_])] Q1 J1 rfl ?_
 refine rt ?_
 cases h
 exact ⟨_,_,⟨rfl,rfl⟩,rfl,rfl,Fz.v⟩
theorem w_packN3 {p_b} {r} (h:packN16 p_b=some r):Pure Tryz.prog 93 [(.s (mU p_b))] (.t [(vs r.1),(.s (mU r.2.1)),(vi r.2.2)]):=by
 refine po Tryz.tok 28 Tryz.func93 (by kernel_rfl) rfl rfl rfl ?_
 unfold packN16 at h
 refine wE [(0,.s (mU p_b))] Q1 ?_
 refine sg ?_
 refine wE [(0,.s (mU p_b))] Q1 ?_
 refine sg ?_
 refine wT [(5,.b 10 0)] [(10,.box [.s (mU p_b),vi (0)])] Q1 J1 rfl ?_
 refine sg ?_
 obtain ⟨x1,hx1,h⟩:=bindS h
 refine CallOk.chgLe (id:=10) (w_packN7 hx1) rfl (.box (.cons (lr) (.cons (lr) (.nil)))) rfl (.cons (Lr.b) (.nil)) ?_
 rintro _ _ ⟨rfl,rfl⟩
 refine wT [(5,.b 10 0),(6,vs x1.1)] [(10,.box [.s (mU x1.2.rest_.b_),vi x1.2.e_])] Q2 J1 rfl ?_
 refine sq ?_
 refine sg ?_
 refine ⟨_,rfl,?_⟩
 refine wT [(5,.b 10 0),(6,vs x1.1),(17,vb (x1.2.e_ != 0))] [(10,.box [.s (mU x1.2.rest_.b_),vi x1.2.e_])] Q3 J1 rfl ?_
 refine cn 17 (x1.2.e_ != 0) rfl h (fun hb h=>?_) fun hb h=>?_
 ·refine sq ?_
  refine Ok.draw (m:=7) (MD:=⟨[]⟩) (CH:=⟨[]⟩) Tryz.tok Tryz.mixed (by kernel_rfl) ?_
  refine ⟨_,rfl,_,rfl,_,rfl,_,⟨_,rfl,rfl⟩,_,rfl,_,rfl,_,rfl,Q0,?_⟩
  refine wE [(2,vs ([])),(3,.v (.slice none 0 0)),(4,vi x1.2.e_)] Q3 ?_
  refine rt ?_
  cases h
  exact (Fz.t (.cons Fz.v (.cons Fz.nil (.cons Fz.v .nil))))
 refine sk ?_
 refine sq ?_
 refine Ok.draw (m:=9) (MD:=⟨[]⟩) (CH:=⟨[]⟩) Tryz.tok Tryz.mixed (by kernel_rfl) ?_
 refine ⟨_,rfl,_,rfl,_,rfl,_,rfl,_,rfl,_,⟨_,rfl,rfl⟩,_,rfl,_,rfl,_,rfl,Q0,?_⟩
 refine wE [(2,vs x1.1),(3,.s (mU x1.2.rest_.b_)),(4,vi (0))] Q3 ?_
 refine rt ?_
 cases h
 exact (Fz.t (.cons Fz.v (.cons Fz.s (.cons Fz.v .nil))))
theorem w_chunkN6 {self} {r} (h:chunkN13 self=some r):PChg Tryz.prog 92 [(.b 1000 0),(.c (.func 93) [] [])] (.box [(.s (mU self.b_)),(vb self.bad_)]) (fun x c=>x=(vs r.1)∧c=.box [(.s (mU r.2.b_)),(vb r.2.bad_)]):=by
 refine pchg_of_ok (n:=36) (c:=Tryz.f92.body.getD .skip) Tryz.tok Tryz.func92 (by kernel_rfl) rfl rfl (Nat.le_of_ble_eq_true rfl) ?_
 unfold chunkN13 at h
 refine wT [(0,.b 1000 0),(1,.c (.func 93) [] [])] [(1000,.box [.s (mU self.b_),vb self.bad_])] Q2 J1 rfl ?_
 refine sg ?_
 refine wT [(0,.b 1000 0),(1,.c (.func 93) [] [])] [(1000,.box [.s (mU self.b_),vb self.bad_])] Q2 J1 rfl ?_
 refine sg ?_
 obtain ⟨x1,hx1,h⟩:=bindS h
 refine ⟨_,rfl,?_⟩
 refine CallOk.call (w_packN3 hx1) (LeL.refl _) ?_
 refine wT [(0,.b 1000 0),(5,vs x1.1),(6,.s (mU x1.2.1)),(7,vi x1.2.2)] [(1000,.box [.s (mU self.b_),vb self.bad_])] Q4 J1 rfl ?_
 refine sq ?_
 obtain ⟨v1,hv1,h⟩:=bindS h
 refine Ok.seqw ⟨Cat.tab [(0,.b 1000 0),(5,vs x1.1),(6,.s (mU x1.2.1)),(26,vb v1)],[(1000,.box [.s (mU self.b_),vb self.bad_])]⟩ ?_ ?_
 ·refine rg ?_
  refine ⟨_,rfl,?_⟩
  obtain ⟨c1,hg1,hv1⟩:=bindS hv1
  refine Br.itf hg1 (fun hb hg1=>?_) fun hb hg1=>?_
  ·cases hg1
   cases hv1
   exact wt Q4 J1 rfl
  cases hg1
  cases hv1
  exact wt Q4 J1 rfl
 refine cn 26 (v1) rfl h (fun hb h=>?_) fun hb h=>?_
 ·refine sg ?_
  refine ⟨_,rfl,?_⟩
  refine wT [] [(1000,.box [.s (mU self.b_),vb true])] Q0 J1 rfl ?_
  refine sg ?_
  refine wT [(8,vs ([]))] [(1000,.box [.s (mU self.b_),vb true])] Q1 J1 rfl ?_
  refine sg ?_
  refine wT [(4,vs ([]))] [(1000,.box [.s (mU self.b_),vb true])] Q1 J1 rfl ?_
  refine rt ?_
  cases h
  exact ⟨_,_,⟨rfl,rfl⟩,rfl,rfl,Fz.v⟩
 refine sk ?_
 refine sg ?_
 refine ⟨_,rfl,?_⟩
 refine wT [(5,vs x1.1)] [(1000,.box [.s (mU x1.2.1),vb self.bad_])] Q1 J1 rfl ?_
 refine sg ?_
 refine wT [(4,vs x1.1)] [(1000,.box [.s (mU x1.2.1),vb self.bad_])] Q1 J1 rfl ?_
 refine rt ?_
 cases h
 exact ⟨_,_,⟨rfl,rfl⟩,rfl,rfl,Fz.v⟩
theorem w_packN2 {p_b} {r} (h:packN10 p_b=some r):Pure Tryz.prog 95 [(.s (mU p_b))] (.t [(.s (mI r.1)),(.s (mU r.2.1)),(vi r.2.2)]):=by
 refine po Tryz.tok 41 Tryz.func95 (by kernel_rfl) rfl rfl rfl ?_
 unfold packN10 at h
 refine wE [(0,.s (mU p_b))] Q1 ?_
 refine sg ?_
 refine wE [(0,.s (mU p_b))] Q1 ?_
 refine sg ?_
 refine wT [(5,.b 10 0)] [(10,.box [.s (mU p_b),vi (0)])] Q1 J1 rfl ?_
 refine sg ?_
 refine wT [(5,.b 10 0),(6,.v (.slice none 0 0))] [(10,.box [.s (mU p_b),vi (0)])] Q2 J1 rfl ?_
 obtain ⟨v1,hv1,h⟩:=bindS h
 refine Ok.seqw ⟨Cat.tab [(5,.b 10 0),(6,.o 19)],[(10,.box [.s (mU v1.1),vi v1.2.1]),(19,.own 3 1 (mI v1.2.2))]⟩ ?_ ?_
 ·refine sg ?_
  obtain ⟨x1,hx1,hv1⟩:=bindS hv1
  refine CallOk.chgLe (id:=10) (w_packN5 hx1) rfl (.box (.cons (lr) (.cons (lr) (.nil)))) rfl (.cons (Lr.b) (.nil)) ?_
  rintro _ _ ⟨rfl,rfl⟩
  refine wT [(5,.b 10 0),(6,.v (.slice none 0 0)),(12,vi x1.1),(13,vi (0))] [(10,.box [.s (mU x1.2.rest_.b_),vi x1.2.e_])] Q4 J1 rfl ?_
  refine bl ?_
  refine Ok.loop (fun (s1:Int×(List UInt8)×Int×(List Int))=>⟨Cat.tab [(5,.b 10 0),(6,.o 19),(12,vi x1.1),(13,vi s1.1)],[(10,.box [.s (mU s1.2.1),vi s1.2.2.1]),(19,.own 3 1 (mI s1.2.2.2))]⟩) (packN12 x1) (s0:=(0,x1.2.rest_.b_,x1.2.e_,[])) hv1 ((Wk.own0 (t:=6) (id:=19) (E:=3) (K:=1) rfl rfl).trans (wt Q4 ⟨⟨_,rfl,.refl _⟩,⟨_,rfl,.refl _⟩,Q0⟩ rfl)) ?_
  intro s1 y1 hB1 hy1
  unfold packN12 at hB1
  refine sg ?_
  refine wT [(5,.b 10 0),(6,.o 19),(12,vi x1.1),(13,vi s1.1),(14,vb (decide (s1.1 < x1.1)))] [(10,.box [.s (mU s1.2.1),vi s1.2.2.1]),(19,.own 3 1 (mI s1.2.2.2))] Q5 J2 rfl ?_
  refine sq ?_
  refine cn 14 (decide (s1.1 < x1.1)) rfl hB1 (fun hb hB1=>?_) fun hb hB1=>?_
  ·refine sk ?_
   refine sq ?_
   refine bl ?_
   refine sg ?_
   obtain ⟨x2,hx2,hB1⟩:=bindS hB1
   refine CallOk.chgLe (id:=10) (w_packN6 hx2) rfl (.box (.cons (lr) (.cons (lr) (.nil)))) rfl (.cons (Lr.b) (.nil)) ?_
   rintro _ _ ⟨rfl,rfl⟩
   obtain ⟨hc1,hB1⟩:=chk_some hB1
   refine Or.inl ⟨rowsLen_map (f:=Go.Cat.encI) (n:=1) (fun _=>rfl) ([x2.1]),app_b2 (f:=Go.Cat.encI) (l:=s1.2.2.2) (l':=[x2.1]) hc1,_,(List.map_append (f:=Go.Cat.encI) (l₁:=s1.2.2.2) (l₂:=[x2.1])).symm,?_⟩
   refine wT [(5,.b 10 0),(6,.o 19),(12,vi x1.1),(13,vi s1.1)] [(10,.box [.s (mU x2.2.rest_.b_),vi x2.2.e_]),(19,.own 3 1 (mI (s1.2.2.2++[x2.1])))] Q4 J2 rfl ?_
   refine sg ?_
   refine ⟨_,rfl,?_⟩
   refine wT [(5,.b 10 0),(6,.o 19),(12,vi x1.1),(13,vi s1.1),(24,vb (x2.2.e_ != 0))] [(10,.box [.s (mU x2.2.rest_.b_),vi x2.2.e_]),(19,.own 3 1 (mI (s1.2.2.2++[x2.1])))] Q5 J2 rfl ?_
   refine cn 24 (x2.2.e_ != 0) rfl hB1 (fun hb hB1=>?_) fun hb hB1=>?_
   ·refine xt ?_
    have hB1:=out_ret hB1 hy1
    cases hB1
    exact wt Q2 J2 rfl
   refine sk ?_
   refine rg ?_
   obtain ⟨hc2,hB1⟩:=chk_some hB1
   refine (Or.inl ⟨hc2,?_⟩)
   exact ⟨_,sj hB1,wt Q4 J2 rfl⟩
  refine xt ?_
  have hB1:=out_ret hB1 hy1
  cases hB1
  exact wt Q2 J2 rfl
 refine sq ?_
 refine sg ?_
 refine ⟨_,rfl,?_⟩
 refine wT [(5,.b 10 0),(6,.o 19),(30,vb (v1.2.1 != 0))] [(10,.box [.s (mU v1.1),vi v1.2.1]),(19,.own 3 1 (mI v1.2.2))] Q3 J2 rfl ?_
 refine cn 30 (v1.2.1 != 0) rfl h (fun hb h=>?_) fun hb h=>?_
 ·refine sq ?_
  refine Ok.draw (m:=7) (MD:=⟨[]⟩) (CH:=⟨[]⟩) Tryz.tok Tryz.mixed (by kernel_rfl) ?_
  refine ⟨_,rfl,_,rfl,_,rfl,_,⟨_,rfl,rfl⟩,_,rfl,_,rfl,_,rfl,Q0,?_⟩
  refine wE [(2,.v (.slice none 0 0)),(3,.v (.slice none 0 0)),(4,vi v1.2.1)] Q3 ?_
  refine rt ?_
  cases h
  exact (Fz.t (.cons Fz.nil (.cons Fz.nil (.cons Fz.v .nil))))
 refine sk ?_
 refine sq ?_
 refine Ok.draw (m:=9) (MD:=⟨[]⟩) (CH:=⟨[]⟩) Tryz.tok Tryz.mixed (by kernel_rfl) ?_
 refine ⟨_,rfl,_,rfl,_,rfl,_,rfl,_,rfl,_,⟨_,rfl,rfl⟩,_,rfl,_,rfl,_,rfl,Q0,?_⟩
 refine wT [(2,.o 19),(3,.s (mU v1.1)),(4,vi (0))] [(19,.own 3 1 (mI v1.2.2))] Q3 J1 rfl ?_
 refine rt ?_
 cases h
 exact (Fz.t (.cons (Fz.o rfl) (.cons Fz.s (.cons Fz.v .nil))))
theorem w_chunkN5 {self} {r} (h:chunkN11 self=some r):PChg Tryz.prog 94 [(.b 1000 0),(.c (.func 95) [] [])] (.box [(.s (mU self.b_)),(vb self.bad_)]) (fun x c=>x=(.s (mI r.1))∧c=.box [(.s (mU r.2.b_)),(vb r.2.bad_)]):=by
 refine pchg_of_ok (n:=36) (c:=Tryz.f94.body.getD .skip) Tryz.tok Tryz.func94 (by kernel_rfl) rfl rfl (Nat.le_of_ble_eq_true rfl) ?_
 unfold chunkN11 at h
 refine wT [(0,.b 1000 0),(1,.c (.func 95) [] [])] [(1000,.box [.s (mU self.b_),vb self.bad_])] Q2 J1 rfl ?_
 refine sg ?_
 refine wT [(0,.b 1000 0),(1,.c (.func 95) [] [])] [(1000,.box [.s (mU self.b_),vb self.bad_])] Q2 J1 rfl ?_
 refine sg ?_
 obtain ⟨x1,hx1,h⟩:=bindS h
 refine ⟨_,rfl,?_⟩
 refine CallOk.call (w_packN2 hx1) (LeL.refl _) ?_
 refine wT [(0,.b 1000 0),(5,.s (mI x1.1)),(6,.s (mU x1.2.1)),(7,vi x1.2.2)] [(1000,.box [.s (mU self.b_),vb self.bad_])] Q4 J1 rfl ?_
 refine sq ?_
 obtain ⟨v1,hv1,h⟩:=bindS h
 refine Ok.seqw ⟨Cat.tab [(0,.b 1000 0),(5,.s (mI x1.1)),(6,.s (mU x1.2.1)),(26,vb v1)],[(1000,.box [.s (mU self.b_),vb self.bad_])]⟩ ?_ ?_
 ·refine rg ?_
  refine ⟨_,rfl,?_⟩
  obtain ⟨c1,hg1,hv1⟩:=bindS hv1
  refine Br.itf hg1 (fun hb hg1=>?_) fun hb hg1=>?_
  ·cases hg1
   cases hv1
   exact wt Q4 J1 rfl
  cases hg1
  cases hv1
  exact wt Q4 J1 rfl
 refine cn 26 (v1) rfl h (fun hb h=>?_) fun hb h=>?_
 ·refine sg ?_
  refine ⟨_,rfl,?_⟩
  refine wT [] [(1000,.box [.s (mU self.b_),vb true])] Q0 J1 rfl ?_
  refine sg ?_
  refine wT [(8,.v (.slice none 0 0))] [(1000,.box [.s (mU self.b_),vb true])] Q1 J1 rfl ?_
  refine sg ?_
  refine wT [(4,.v (.slice none 0 0))] [(1000,.box [.s (mU self.b_),vb true])] Q1 J1 rfl ?_
  refine rt ?_
  cases h
  exact ⟨_,_,⟨rfl,rfl⟩,rfl,rfl,Fz.nil⟩
 refine sk ?_
 refine sg ?_
 refine ⟨_,rfl,?_⟩
 refine wT [(5,.s (mI x1.1))] [(1000,.box [.s (mU x1.2.1),vb self.bad_])] Q1 J1 rfl ?_
 refine sg ?_
 refine wT [(4,.s (mI x1.1))] [(1000,.box [.s (mU x1.2.1),vb self.bad_])] Q1 J1 rfl ?_
 refine rt ?_
 cases h
 exact ⟨_,_,⟨rfl,rfl⟩,rfl,rfl,Fz.s⟩
theorem w_chunkN2 {self} {r} (h:chunkN5 self=some r):PChg Tryz.prog 68 [(.b 1000 0)] (.box [(.s (mU self.b_)),(vb self.bad_)]) (fun x c=>x=(.t [(.a [(vi r.1.1.Id),(vi r.1.1.Ver),(.s (mU r.1.1.Data)),(.s (mI r.1.1.Sums))]),(vb r.1.2)])∧c=.box [(.s (mU r.2.b_)),(vb r.2.bad_)]):=by
 refine pchg_of_ok (n:=34) (c:=Tryz.f68.body.getD .skip) Tryz.tok Tryz.func68 (by kernel_rfl) rfl rfl (Nat.le_of_ble_eq_true rfl) ?_
 unfold chunkN5 at h
 refine wT [(0,.b 1000 0)] [(1000,.box [.s (mU self.b_),vb self.bad_])] Q1 J1 rfl ?_
 refine sg ?_
 refine wT [(0,.b 1000 0),(2,.b 2 0)] [(1000,.box [.s (mU self.b_),vb self.bad_]),(2,.box [vi (0),vi (0),.v (.slice none 0 0),.v (.slice none 0 0)])] Q2 J2 rfl ?_
 refine sg ?_
 refine wT [(0,.b 1000 0),(2,.b 2 0),(4,.c (.func 91) [.b 1000 0] [])] [(1000,.box [.s (mU self.b_),vb self.bad_]),(2,.box [vi (0),vi (0),.v (.slice none 0 0),.v (.slice none 0 0)])] Q3 J2 rfl ?_
 refine sg ?_
 obtain ⟨x1,hx1,h⟩:=bindS h
 refine CallOk.chgLe (id:=1000) (w_chunkN3 hx1) rfl (.box (.cons (lr) (.cons (lr) (.nil)))) rfl (.cons (Lr.b) (.nil)) ?_
 rintro _ _ ⟨rfl,rfl⟩
 obtain ⟨x2,hx2,h⟩:=bindS h
 refine CallOk.chgLe (id:=1000) (w_chunkN3 hx2) rfl (.box (.cons (lr) (.cons (lr) (.nil)))) rfl (.cons (Lr.b) (.nil)) ?_
 rintro _ _ ⟨rfl,rfl⟩
 refine ⟨_,rfl,?_⟩
 refine sg ?_
 obtain ⟨x3,hx3,h⟩:=bindS h
 refine CallOk.chgLe (id:=1000) (w_chunkN6 hx3) rfl (.box (.cons (lr) (.cons (lr) (.nil)))) rfl (.cons (Lr.b) (.cons (Lr.imm rfl) (.nil))) ?_
 rintro _ _ ⟨rfl,rfl⟩
 obtain ⟨hc1,h⟩:=chk_some h
 refine ⟨str_max hc1,_,rfl,?_⟩
 refine wT [(0,.b 1000 0),(2,.b 2 0),(5,.b 5 0)] [(1000,.box [.s (mU x3.2.b_),vb x3.2.bad_]),(2,.box [vi (0),vi (0),.v (.slice none 0 0),.v (.slice none 0 0)]),(5,.box [vi x1.1,vi x2.1,.s (mU x3.1),.v (.slice none 0 0)])] Q3 J3 rfl ?_
 refine sg ?_
 obtain ⟨x4,hx4,h⟩:=bindS h
 refine CallOk.chgLe (id:=1000) (w_chunkN5 hx4) rfl (.box (.cons (lr) (.cons (lr) (.nil)))) rfl (.cons (Lr.b) (.cons (Lr.imm rfl) (.nil))) ?_
 rintro _ _ ⟨rfl,rfl⟩
 refine ⟨_,rfl,?_⟩
 obtain ⟨v1,hv1,h⟩:=bindS h
 refine Ok.seqw ⟨Cat.tab [(2,.b 2 0),(3,vb v1)],[(2,.box [vi x1.1,vi x2.1,.s (mU x3.1),.s (mI x4.1)]),(1000,.box [.s (mU x4.2.b_),vb x4.2.bad_])]⟩ ?_ ?_
 ·refine Ok.draw2 (m:=14) (late:=[7,8,9,10,11,12,13]) (MD:=⟨[]⟩) (CH:=⟨[]⟩) Tryz.tok Tryz.mixed (by kernel_rfl) ?_
  refine ⟨_,⟨_,rfl,rfl⟩,_,rfl,_,rfl,_,rfl,_,⟨_,rfl,rfl⟩,_,rfl,_,rfl,?_⟩
  obtain ⟨c1,hg1,hv1⟩:=bindS hv1
  refine Br.ite hg1 (fun hb hg1=>?_) fun hb hg1=>?_
  ·refine ⟨_,rfl,_,rfl,_,rfl,_,⟨_,rfl,rfl⟩,_,⟨_,List.length_map _,fun _=>rfl⟩,_,rfl,?_⟩
   cases hg1
   refine ⟨_,rfl,?_⟩
   refine ⟨Q0,?_⟩
   refine ⟨_,rfl,⟨⟨_,rfl,_,rfl,.inl ⟨rfl,rfl⟩⟩,⟨_,rfl,_,rfl,.inl ⟨rfl,rfl⟩⟩,⟨_,rfl,_,rfl,.inl ⟨rfl,rfl⟩⟩,⟨_,rfl,_,rfl,.inl ⟨rfl,_,rfl,rfl⟩⟩,⟨_,rfl,_,rfl,.inl ⟨rfl,_,List.length_map _,fun _=>rfl⟩⟩,⟨_,rfl,_,rfl,.inl ⟨rfl,rfl⟩⟩,⟨_,rfl,rfl⟩,Q0⟩,?_⟩
   cases hv1
   exact wt Q2 J2 rfl
  cases hg1
  refine ⟨_,rfl,?_⟩
  refine ⟨Q0,?_⟩
  refine ⟨_,rfl,⟨⟨_,rfl,_,rfl,.inr (.inl ⟨rfl,rfl⟩)⟩,⟨_,rfl,_,rfl,.inr (.inl ⟨rfl,rfl⟩)⟩,⟨_,rfl,_,rfl,.inr (.inl ⟨rfl,rfl⟩)⟩,⟨_,rfl,_,rfl,.inr (.inl ⟨rfl,rfl⟩)⟩,⟨_,rfl,_,rfl,.inr (.inl ⟨rfl,rfl⟩)⟩,⟨_,rfl,_,rfl,.inr (.inl ⟨rfl,rfl⟩)⟩,⟨_,rfl,rfl⟩,Q0⟩,?_⟩
  cases hv1
  exact wt Q2 J2 rfl
 refine rt ?_
 cases h
 exact ⟨_,rfl,_,_,⟨rfl,rfl⟩,rfl,rfl,(Fz.t (.cons (Fz.imm rfl) (.cons Fz.v .nil)))⟩
theorem w_bytesN2 {p_a} {p_b} {r} (h:bytes_Equal p_a p_b=some r):Pure Tryz.prog 70 [(.s (mU p_a)),(.s (mU p_b))] (vb r):=by
 refine po Tryz.tok 10 Tryz.func70 (by kernel_rfl) rfl rfl rfl ?_
 unfold bytes_Equal at h
 refine wE [(0,.s (mU p_a)),(1,.s (mU p_b))] Q2 ?_
 refine sg ?_
 refine wE [(0,.s (mU p_a)),(1,.s (mU p_b))] Q2 ?_
 refine sg ?_
 refine ⟨_,rfl,_,rfl,_,str_eql _ _,?_⟩
 refine wE [(4,vb (p_a == p_b))] Q1 ?_
 refine rt ?_
 cases h
 exact Fz.v
theorem w_chunk_Get {p_d} {p_id} {r} (h:chunk_Get p_d p_id=some r):Pure Tryz.prog 44 [(.a [(.s (mB p_d.Synced)),(.s (mB p_d.Loose)),(vb p_d.Down)]),(vi p_id)] (.t [(.a [(vi r.1.Id),(vi r.1.Ver),(.s (mU r.1.Data)),(.s (mI r.1.Sums))]),(vi r.2)]):=by
 refine po Tryz.tok 61 Tryz.func44 (by kernel_rfl) rfl rfl rfl ?_
 unfold chunk_Get at h
 refine wE [(0,.a [.s (mB p_d.Synced),.s (mB p_d.Loose),vb p_d.Down]),(1,vi p_id)] Q2 ?_
 refine sg ?_
 refine wT [(1,vi p_id),(2,.b 2 0),(4,.b 4 0)] [(2,.box [.s (mB p_d.Synced),.s (mB p_d.Loose),vb p_d.Down]),(4,.box [vi (0),vi (0),.v (.slice none 0 0),.v (.slice none 0 0)])] Q3 J2 rfl ?_
 refine sg ?_
 obtain ⟨x1,hx1,h⟩:=bindS h
 refine ⟨_,rfl,?_⟩
 refine CallOk.call (w_chunkN7 hx1) (LeL.refl _) ?_
 refine wT [(1,vi p_id),(4,.b 4 0),(6,.s (mU x1.1)),(7,vi x1.2)] [(4,.box [vi (0),vi (0),.v (.slice none 0 0),.v (.slice none 0 0)])] Q4 J1 rfl ?_
 refine sq ?_
 refine bl ?_
 refine sg ?_
 refine wT [(1,vi p_id),(4,.b 4 0),(6,.s (mU x1.1)),(7,vi x1.2),(17,vb (x1.2 != 0))] [(4,.box [vi (0),vi (0),.v (.slice none 0 0),.v (.slice none 0 0)])] Q5 J1 rfl ?_
 refine cn 17 (x1.2 != 0) rfl h (fun hb h=>?_) fun hb h=>?_
 ·refine sg ?_
  refine ⟨_,rfl,?_⟩
  refine wT [(4,.b 4 0),(5,vi x1.2)] [(4,.box [vi (0),vi (0),.v (.slice none 0 0),.v (.slice none 0 0)])] Q2 J1 rfl ?_
  refine rt ?_
  cases h
  exact ⟨_,rfl,(Fz.t (.cons (Fz.a (.cons Fz.v (.cons Fz.v (.cons Fz.nil (.cons Fz.nil .nil))))) (.cons Fz.v .nil)))⟩
 refine sg ?_
 refine ⟨_,List.length_map _,fun _=>?_⟩
 refine wT [(1,vi p_id),(4,.b 4 0),(6,.s (mU x1.1)),(22,vb (decide ((x1.1.length:Int) < 4)))] [(4,.box [vi (0),vi (0),.v (.slice none 0 0),.v (.slice none 0 0)])] Q4 J1 rfl ?_
 refine cn 22 (decide ((x1.1.length:Int) < 4)) rfl h (fun hb h=>?_) fun hb h=>?_
 ·refine sg ?_
  refine ⟨_,rfl,?_⟩
  refine wT [(4,.b 4 0),(5,vi (251))] [(4,.box [vi (0),vi (0),.v (.slice none 0 0),.v (.slice none 0 0)])] Q2 J1 rfl ?_
  refine rt ?_
  cases h
  exact ⟨_,rfl,(Fz.t (.cons (Fz.a (.cons Fz.v (.cons Fz.v (.cons Fz.nil (.cons Fz.nil .nil))))) (.cons Fz.v .nil)))⟩
 refine sk ?_
 refine sg ?_
 obtain ⟨hc1,h⟩:=chk_some h
 obtain ⟨hc2,h⟩:=chk_some h
 refine ⟨_,List.length_map _,fun _=>(Or.inl ⟨hc1,_,sl_nat hc2.1,Nat.zero_le _,sl_len hc2,rowsK (f:=cU8) (K:=1) (fun _=>rfl) x1.1,_,sl_take _ _ _,?_⟩)⟩
 refine wT [(1,vi p_id),(4,.b 4 0),(6,.s (mU x1.1)),(8,.b 33 0)] [(4,.box [vi (0),vi (0),.v (.slice none 0 0),.v (.slice none 0 0)]),(33,.box [.s (mU (x1.1.take ((x1.1.length:Int) - 4).toNat)),vb false])] Q4 J2 rfl ?_
 refine sg ?_
 obtain ⟨x2,hx2,h⟩:=bindS h
 refine CallOk.chgLe (id:=33) (w_chunkN2 hx2) rfl (.box (.cons (lr) (.cons (lr) (.nil)))) rfl (.cons (Lr.b) (.nil)) ?_
 rintro _ _ ⟨rfl,rfl⟩
 refine ⟨_,rfl,?_⟩
 refine sq ?_
 obtain ⟨v1,hv1,h⟩:=bindS h
 refine Ok.seqw ⟨Cat.tab [(4,.b 4 0),(9,.b 9 0),(58,vb v1)],[(4,.box [vi (0),vi (0),.v (.slice none 0 0),.v (.slice none 0 0)]),(9,.box [vi x2.1.1.Id,vi x2.1.1.Ver,.s (mU x2.1.1.Data),.s (mI x2.1.1.Sums)])]⟩ ?_ ?_
 ·refine rg ?_
  obtain ⟨c1,hg1,hv1⟩:=bindS hv1
  refine Br.itf hg1 (fun hb hg1=>?_) fun hb hg1=>?_
  ·cases hg1
   obtain ⟨c2,hg2,hv1⟩:=bindS hv1
   replace hg2:=iteT hg2
   cases hg2
   obtain ⟨c3,hg3,hv1⟩:=bindS hv1
   replace hg3:=iteT hg3
   cases hg3
   cases hv1
   exact wt Q3 J2 rfl
  obtain ⟨x3,hx3,hg1⟩:=bindS hg1
  refine ⟨_,rfl,?_⟩
  refine CallOk.call (w_chunk_may hx3) (LeL.refl _) ?_
  cases hg1
  obtain ⟨c2,hg4,hv1⟩:=bindS hv1
  refine Br.itf hg4 (fun hb hg4=>?_) fun hb hg4=>?_
  ·cases hg4
   obtain ⟨c3,hg5,hv1⟩:=bindS hv1
   replace hg5:=iteT hg5
   cases hg5
   cases hv1
   exact wt Q3 J2 rfl
  refine ⟨_,rfl,?_⟩
  cases hg4
  obtain ⟨c3,hg6,hv1⟩:=bindS hv1
  refine Br.itf hg6 (fun hb hg6=>?_) fun hb hg6=>?_
  ·cases hg6
   cases hv1
   exact wt Q3 J2 rfl
  obtain ⟨x4,hx4,hg6⟩:=bindS hg6
  refine ⟨_,rfl,?_⟩
  refine CallOk.call (w_chunkN1 hx4) (LeL.refl _) ?_
  obtain ⟨x5,hx5,hg6⟩:=bindS hg6
  refine CallOk.call (w_bytesN2 hx5) (LeL.refl _) ?_
  cases hg6
  cases hv1
  exact wt Q3 J2 rfl
 refine cn 58 (v1) rfl h (fun hb h=>?_) fun hb h=>?_
 ·refine sg ?_
  refine ⟨_,rfl,?_⟩
  refine wT [(4,.b 4 0),(5,vi (251))] [(4,.box [vi (0),vi (0),.v (.slice none 0 0),.v (.slice none 0 0)])] Q2 J1 rfl ?_
  refine rt ?_
  cases h
  exact ⟨_,rfl,(Fz.t (.cons (Fz.a (.cons Fz.v (.cons Fz.v (.cons Fz.nil (.cons Fz.nil .nil))))) (.cons Fz.v .nil)))⟩
 refine sk ?_
 refine sg ?_
 refine ⟨_,rfl,_,rfl,?_⟩
 refine wT [(4,.b 4 0),(5,vi (0))] [(4,.box [vi x2.1.1.Id,vi x2.1.1.Ver,.s (mU x2.1.1.Data),.s (mI x2.1.1.Sums)])] Q2 J1 rfl ?_
 refine rt ?_
 cases h
 exact ⟨_,rfl,(Fz.t (.cons (Fz.imm rfl) (.cons Fz.v .nil)))⟩
theorem w_chainN9 {p_c} {p_disks} {r} (h:chain_Read p_c p_disks=some r):Pure Tryz.prog 16 [(.a [(vi p_c.Id),(vi p_c.Ver),(.s (mI p_c.Servers))]),(.s (mA p_disks))] (.t [(.s (mU r.1)),(vi r.2)]):=by
 refine po Tryz.tok 37 Tryz.func16 (by kernel_rfl) rfl rfl rfl ?_
 unfold chain_Read at h
 refine wE [(0,.a [vi p_c.Id,vi p_c.Ver,.s (mI p_c.Servers)]),(1,.s (mA p_disks))] Q2 ?_
 refine sg ?_
 refine wT [(1,.s (mA p_disks)),(2,.b 2 0)] [(2,.box [vi p_c.Id,vi p_c.Ver,.s (mI p_c.Servers)])] Q2 J1 rfl ?_
 refine sq ?_
 refine Ok.draw2 (m:=18) (late:=[16]) (MD:=⟨[]⟩) (CH:=⟨[]⟩) Tryz.tok Tryz.mixed (by kernel_rfl) ?_
 obtain ⟨hc1,h⟩:=chk_some h
 obtain ⟨x1,hx1,h⟩:=bindS h
 obtain ⟨x2,hx2,h⟩:=bindS h
 obtain ⟨x3,hx3,h⟩:=bindS h
 refine ⟨_,rfl,_,rfl,_,⟨_,rfl,rfl⟩,_,rfl,_,⟨_,rfl,rfl⟩,_,⟨_,List.length_map _,fun _=>rfl⟩,_,Or.inl ⟨hc1,rfl⟩,_,⟨_,idx_nat hx1,_,idx_row hx1,rfl⟩,_,⟨_,rfl,rfl⟩,_,⟨_,idx_nat hx2,_,idx_row hx2,rfl⟩,_,⟨_,rfl,rfl⟩,_,rfl,_,⟨_,rfl,rfl⟩,_,⟨_,.of_pure (w_chunk_Get hx3) (LeL.refl _),rfl⟩,_,rfl,_,rfl,_,rfl,Q0,?_⟩
 refine ⟨_,rfl,⟨⟨_,rfl,rfl⟩,Q0⟩,?_⟩
 refine wT [(2,.b 2 0),(6,.b 6 0),(7,vi x3.2)] [(2,.box [vi p_c.Id,vi p_c.Ver,.s (mI p_c.Servers)]),(6,.box [vi x3.1.Id,vi x3.1.Ver,.s (mU x3.1.Data),.s (mI x3.1.Sums)])] Q3 J2 rfl ?_
 refine sq ?_
 refine bl ?_
 refine sg ?_
 refine wT [(2,.b 2 0),(6,.b 6 0),(7,vi x3.2),(25,vb (x3.2 != 0))] [(2,.box [vi p_c.Id,vi p_c.Ver,.s (mI p_c.Servers)]),(6,.box [vi x3.1.Id,vi x3.1.Ver,.s (mU x3.1.Data),.s (mI x3.1.Sums)])] Q4 J2 rfl ?_
 refine cn 25 (x3.2 != 0) rfl h (fun hb h=>?_) fun hb h=>?_
 ·refine sg ?_
  refine wE [(4,.v (.slice none 0 0)),(5,vi x3.2)] Q2 ?_
  refine rt ?_
  cases h
  exact (Fz.t (.cons Fz.nil (.cons Fz.v .nil)))
 refine sg ?_
 refine ⟨_,rfl,_,rfl,?_⟩
 refine wT [(6,.b 6 0),(29,vb (x3.1.Ver != p_c.Ver))] [(6,.box [vi x3.1.Id,vi x3.1.Ver,.s (mU x3.1.Data),.s (mI x3.1.Sums)])] Q2 J1 rfl ?_
 refine cn 29 (x3.1.Ver != p_c.Ver) rfl h (fun hb h=>?_) fun hb h=>?_
 ·refine sg ?_
  refine wE [(4,.v (.slice none 0 0)),(5,vi (250))] Q2 ?_
  refine rt ?_
  cases h
  exact (Fz.t (.cons Fz.nil (.cons Fz.v .nil)))
 refine sk ?_
 refine sg ?_
 refine ⟨_,rfl,?_⟩
 refine wE [(4,.s (mU x3.1.Data)),(5,vi (0))] Q2 ?_
 refine rt ?_
 cases h
 exact (Fz.t (.cons Fz.s (.cons Fz.v .nil)))
theorem w_chainN1 {p_s} {p_a1_0} {p_a2_0} {r} (h:chain_Cut_1 p_s p_a1_0 p_a2_0=some r):Pure Tryz.prog 52 [(vi p_s),(.p [(vi p_a1_0)]),(.p [(.s (mA p_a2_0))])] (vb r):=by
 refine po Tryz.tok 15 Tryz.func52 (by kernel_rfl) rfl rfl rfl ?_
 unfold chain_Cut_1 at h
 refine wE [(0,vi p_s),(1,.p [vi p_a1_0]),(2,.p [.s (mA p_a2_0)])] Q3 ?_
 refine sg ?_
 refine wE [(0,vi p_s),(1,.p [vi p_a1_0]),(2,.p [.s (mA p_a2_0)])] Q3 ?_
 obtain ⟨v1,hv1,h⟩:=bindS h
 refine Ok.seqw ⟨Cat.tab [(4,vb v1)],[]⟩ ?_ ?_
 ·refine rg ?_
  refine ⟨_,rfl,?_⟩
  obtain ⟨c1,hg1,hv1⟩:=bindS hv1
  refine Br.itf hg1 (fun hb hg1=>?_) fun hb hg1=>?_
  ·cases hg1
   cases hv1
   exact wt Q1 Q0 rfl
  obtain ⟨x1,hx1,hg1⟩:=bindS hg1
  refine ⟨_,rfl,_,idx_nat hx1,_,idx_row hx1,_,rfl,?_⟩
  cases hg1
  cases hv1
  exact wt Q1 Q0 rfl
 refine rt ?_
 cases h
 exact Fz.v
theorem w_slicesN9 {p_s} {p_f_c0} {p_f_c1} {r} (h:slicesN54 p_s p_f_c0 p_f_c1=some r):Pure Tryz.prog 57 [(.s (mI p_s)),(.c (.func 52) [] [(.p [(vi p_f_c0)]),(.p [(.s (mA p_f_c1))])])] (vi r):=by
 refine po Tryz.tok 19 Tryz.func57 (by kernel_rfl) rfl rfl rfl ?_
 unfold slicesN54 at h
 refine wE [(0,.s (mI p_s)),(1,.c (.func 52) [] [.p [vi p_f_c0],.p [.s (mA p_f_c1)]])] Q2 ?_
 refine sg ?_
 refine wE [(0,.s (mI p_s)),(1,.c (.func 52) [] [.p [vi p_f_c0],.p [.s (mA p_f_c1)]])] Q2 ?_
 refine Ok.seqj (fun v1=>⟨Cat.tab [],[]⟩) (fun v1=>slicesN58 v1=some r) ?_ ?_
 ·refine sg ?_
  refine ⟨_,List.length_map _,fun _=>?_⟩
  refine wE [(0,.s (mI p_s)),(1,.c (.func 52) [] [.p [vi p_f_c0],.p [.s (mA p_f_c1)]]),(7,vi (p_s.length:Int)),(8,vi (0))] Q4 ?_
  refine bl ?_
  refine Ok.loop (fun (s1:Int)=>⟨Cat.tab [(0,.s (mI p_s)),(1,.c (.func 52) [] [.p [vi p_f_c0],.p [.s (mA p_f_c1)]]),(7,vi (p_s.length:Int)),(8,vi s1)],[]⟩) (slicesN56 p_s p_f_c0 p_f_c1) (s0:=0) h (wt Q4 Q0 rfl) ?_
  intro s1 y1 hB1 hy1
  unfold slicesN56 at hB1
  refine sg ?_
  refine wE [(0,.s (mI p_s)),(1,.c (.func 52) [] [.p [vi p_f_c0],.p [.s (mA p_f_c1)]]),(7,vi (p_s.length:Int)),(8,vi s1),(9,vb (decide (s1 < (p_s.length:Int))))] Q5 ?_
  refine sq ?_
  refine cn 9 (decide (s1 < (p_s.length:Int))) rfl hB1 (fun hb hB1=>?_) fun hb hB1=>?_
  ·refine sk ?_
   refine sq ?_
   refine bl ?_
   refine sg ?_
   refine wE [(0,.s (mI p_s)),(1,.c (.func 52) [] [.p [vi p_f_c0],.p [.s (mA p_f_c1)]]),(5,vi s1),(7,vi (p_s.length:Int)),(8,vi s1)] Q5 ?_
   refine sg ?_
   obtain ⟨x1,hx1,hB1⟩:=bindS hB1
   obtain ⟨x2,hx2,hB1⟩:=bindS hB1
   refine ⟨_,idx_nat hx1,_,idx_row hx1,_,rfl,?_⟩
   refine CallOk.call (w_chainN1 hx2) (LeL.refl _) ?_
   refine wE [(0,.s (mI p_s)),(1,.c (.func 52) [] [.p [vi p_f_c0],.p [.s (mA p_f_c1)]]),(5,vi s1),(7,vi (p_s.length:Int)),(8,vi s1),(16,vb x2)] Q6 ?_
   refine cn 16 (x2) rfl hB1 (fun hb hB1=>?_) fun hb hB1=>?_
   ·refine sg ?_
    refine wE [(4,vi s1)] Q1 ?_
    refine rt ?_
    have hB1:=out_ret hB1 hy1
    cases hB1
    exact Fz.v
   refine sk ?_
   refine rg ?_
   obtain ⟨hc1,hB1⟩:=chk_some hB1
   refine (Or.inl ⟨hc1,?_⟩)
   exact ⟨_,sj hB1,wt Q4 Q0 rfl⟩
  refine xt ?_
  have hB1:=out_ret hB1 hy1
  exact ⟨_,hB1,wt Q0 Q0 rfl⟩
 intro v1 h
 unfold slicesN58 at h
 refine sg ?_
 refine wE [(4,vi (-1))] Q1 ?_
 refine rt ?_
 cases h
 exact Fz.v
theorem w_chainN2 {p_s} {p_a1} {p_a2} {r} (h:chainN1 p_s p_a1 p_a2=some r):Pure Tryz.prog 52 [(vi p_s),(.p [(vi p_a1)]),(.p [(.s (mA p_a2))])] (vb r):=by
 refine po Tryz.tok 15 Tryz.func52 (by kernel_rfl) rfl rfl rfl ?_
 unfold chainN1 at h
 refine wE [(0,vi p_s),(1,.p [vi p_a1]),(2,.p [.s (mA p_a2)])] Q3 ?_
 refine sg ?_
 refine wE [(0,vi p_s),(1,.p [vi p_a1]),(2,.p [.s (mA p_a2)])] Q3 ?_
 obtain ⟨v1,hv1,h⟩:=bindS h
 refine Ok.seqw ⟨Cat.tab [(4,vb v1)],[]⟩ ?_ ?_
 ·refine rg ?_
  refine ⟨_,rfl,?_⟩
  obtain ⟨c1,hg1,hv1⟩:=bindS hv1
  refine Br.itf hg1 (fun hb hg1=>?_) fun hb hg1=>?_
  ·cases hg1
   cases hv1
   exact wt Q1 Q0 rfl
  obtain ⟨x1,hx1,hg1⟩:=bindS hg1
  refine ⟨_,rfl,_,idx_nat hx1,_,idx_row hx1,_,rfl,?_⟩
  cases hg1
  cases hv1
  exact wt Q1 Q0 rfl
 refine rt ?_
 cases h
 exact Fz.v
theorem wg_slicesN1 {p_h0} {p_b1} {p_b2} {r} (h:slicesN35 p_h0 p_b1 p_b2=some r):CallOk Tryz.prog 51 [(.o 1000),(.c (.func 52) [] [(.b 1001 0),(.b 1002 0)])] ⟨noSlots,[(1000,.own 3 1 (mI p_h0)),(1001,.box [(vi p_b1)]),(1002,.box [(.s (mA p_b2))])]⟩ fun x s=>x=(.o 999)∧s.H=[(999,.own 3 1 (mI r)),(1001,.box [(vi p_b1)]),(1002,.box [(.s (mA p_b2))])]:=by
 refine pgen_of_ok (n:=42) (c:=Tryz.f51.body.getD .skip) Tryz.tok Tryz.func51 (by kernel_rfl) rfl rfl (Nat.le_of_ble_eq_true rfl) ?_
 unfold slicesN35 at h
 refine wT [(0,.o 1000),(1,.c (.func 52) [] [.b 1001 0,.b 1002 0])] [(1000,.own 3 1 (mI p_h0)),(1001,.box [vi p_b1]),(1002,.box [.s (mA p_b2)])] Q2 J3 rfl ?_
 refine sg ?_
 refine wT [(0,.o 1000),(1,.c (.func 52) [] [.b 1001 0,.b 1002 0])] [(1000,.own 3 1 (mI p_h0)),(1001,.box [vi p_b1]),(1002,.box [.s (mA p_b2)])] Q2 J3 rfl ?_
 refine sg ?_
 obtain ⟨x1,hx1,h⟩:=bindS h
 refine CallOk.borrow (w_slicesN9 hx1) (.cons (Fz.o rfl) (.cons (Fz.c .nil (.cons (Fz.b rfl rfl) (.cons (Fz.b rfl rfl) .nil))) (.nil))) rfl ?_
 refine wT [(0,.o 1000),(1,.c (.func 52) [] [.b 1001 0,.b 1002 0]),(5,vi x1)] [(1000,.own 3 1 (mI p_h0)),(1001,.box [vi p_b1]),(1002,.box [.s (mA p_b2)])] Q3 J3 rfl ?_
 refine sq ?_
 refine sg ?_
 refine wT [(0,.o 1000),(1,.c (.func 52) [] [.b 1001 0,.b 1002 0]),(5,vi x1),(12,vb (x1 == (-1)))] [(1000,.own 3 1 (mI p_h0)),(1001,.box [vi p_b1]),(1002,.box [.s (mA p_b2)])] Q4 J3 rfl ?_
 refine cn 12 (x1 == (-1)) rfl h (fun hb h=>?_) fun hb h=>?_
 ·refine sg ?_
  refine wT [(4,.o 1000)] [(1000,.own 3 1 (mI p_h0)),(1001,.box [vi p_b1]),(1002,.box [.s (mA p_b2)])] Q1 J3 rfl ?_
  refine rt ?_
  cases h
  exact (Wk.mv (i:=1000) (d:=999) rfl rfl rfl).trans (wt Q1 ⟨⟨_,rfl,.refl _⟩,⟨_,rfl,.refl _⟩,⟨_,rfl,.refl _⟩,Q0⟩ rfl)
 refine sk ?_
 obtain ⟨v1,hv1,h⟩:=bindS h
 refine Ok.seqw ⟨Cat.tab [(0,.o 1000),(5,vi v1.1)],[(1000,.own 3 1 (mI v1.2)),(1001,.box [vi p_b1]),(1002,.box [.s (mA p_b2)])]⟩ ?_ ?_
 ·refine sg ?_
  obtain ⟨hc1,hv1⟩:=chk_some hv1
  refine (Or.inl ⟨hc1,?_⟩)
  refine wT [(0,.o 1000),(1,.c (.func 52) [] [.b 1001 0,.b 1002 0]),(5,vi x1),(6,vi (x1+1))] [(1000,.own 3 1 (mI p_h0)),(1001,.box [vi p_b1]),(1002,.box [.s (mA p_b2)])] Q4 J3 rfl ?_
  refine bl ?_
  refine Ok.loop (fun (s1:Int×Int×(List Int))=>⟨Cat.tab [(0,.o 1000),(1,.c (.func 52) [] [.b 1001 0,.b 1002 0]),(5,vi s1.1),(6,vi s1.2.1)],[(1000,.own 3 1 (mI s1.2.2)),(1001,.box [vi p_b1]),(1002,.box [.s (mA p_b2)])]⟩) (slicesN37 p_b1 p_b2) (s0:=(x1,x1+1,p_h0)) hv1 (wt Q4 ⟨⟨_,rfl,.refl _⟩,⟨_,rfl,.refl _⟩,⟨_,rfl,.refl _⟩,Q0⟩ rfl) ?_
  intro s1 y1 hB1 hy1
  unfold slicesN37 at hB1
  refine sq ?_
  refine sg ?_
  refine ⟨_,List.length_map _,fun _=>?_⟩
  refine cn 19 (decide (s1.2.1 < (s1.2.2.length:Int))) rfl hB1 (fun hb hB1=>?_) fun hb hB1=>?_
  ·refine sk ?_
   obtain ⟨v2,hv2,hB1⟩:=bindS hB1
   refine Ok.seqw ⟨Cat.tab [(0,.o 1000),(1,.c (.func 52) [] [.b 1001 0,.b 1002 0]),(5,vi v2.1),(6,vi s1.2.1)],[(1000,.own 3 1 (mI v2.2)),(1001,.box [vi p_b1]),(1002,.box [.s (mA p_b2)])]⟩ ?_ ?_
   ·refine bl ?_
    refine sg ?_
    obtain ⟨x2,hx2,hv2⟩:=bindS hv2
    refine ⟨_,idx_nat hx2,idx_ltm hx2,_,idx_row hx2,rfl,_,rfl,?_⟩
    refine wT [(0,.o 1000),(1,.c (.func 52) [] [.b 1001 0,.b 1002 0]),(5,vi s1.1),(6,vi s1.2.1),(7,vi x2)] [(1000,.own 3 1 (mI s1.2.2)),(1001,.box [vi p_b1]),(1002,.box [.s (mA p_b2)])] Q5 J3 rfl ?_
    refine sg ?_
    obtain ⟨x3,hx3,hv2⟩:=bindS hv2
    refine CallOk.borrow (w_chainN2 hx3) (.cons Fz.v (.cons (Fz.b rfl rfl) (.cons (Fz.b rfl rfl) (.nil)))) rfl ?_
    refine wT [(0,.o 1000),(1,.c (.func 52) [] [.b 1001 0,.b 1002 0]),(5,vi s1.1),(6,vi s1.2.1),(7,vi x2),(29,vb (!x3))] [(1000,.own 3 1 (mI s1.2.2)),(1001,.box [vi p_b1]),(1002,.box [.s (mA p_b2)])] Q6 J3 rfl ?_
    refine cn 29 (!x3) rfl hv2 (fun hb hv2=>?_) fun hb hv2=>?_
    ·refine sg ?_
     obtain ⟨x4,hx4,hv2⟩:=bindS hv2
     refine ⟨_,idx_nat hx4,idx_ltm hx4,_,idx_row hx4,rfl,_,rfl,_,set_row (f:=Go.Cat.encI) (x:=x2),?_⟩
     refine wT [(0,.o 1000),(1,.c (.func 52) [] [.b 1001 0,.b 1002 0]),(5,vi s1.1),(6,vi s1.2.1)] [(1000,.own 3 1 (mI (s1.2.2.set s1.1.toNat x2))),(1001,.box [vi p_b1]),(1002,.box [.s (mA p_b2)])] Q4 J3 rfl ?_
     refine rg ?_
     obtain ⟨hc2,hv2⟩:=chk_some hv2
     refine (Or.inl ⟨hc2,?_⟩)
     cases hv2
     exact wt Q4 J3 rfl
    refine sk ?_
    cases hv2
    exact wt Q4 J3 rfl
   refine rg ?_
   obtain ⟨hc3,hB1⟩:=chk_some hB1
   refine (Or.inl ⟨hc3,?_⟩)
   exact ⟨_,sj hB1,wt Q4 J3 rfl⟩
  refine xt ?_
  have hB1:=out_ret hB1 hy1
  cases hB1
  exact wt Q2 J3 rfl
 refine sg ?_
 obtain ⟨hc4,h⟩:=chk_some h
 refine ⟨_,sl_nat hc4.1,sl_own hc4,_,clr_rows (f:=Go.Cat.encI) (z:=(0:Int)) v1.2 (v1.1.toNat),?_⟩
 refine wT [(0,.o 1000),(5,vi v1.1)] [(1000,.own 3 1 (mI (v1.2.take (v1.1.toNat)++List.replicate (v1.2.length - (v1.1.toNat)) (0:Int)))),(1001,.box [vi p_b1]),(1002,.box [.s (mA p_b2)])] Q2 J3 rfl ?_
 refine sq ?_
 refine Ok.wk (Wk.mv (i:=1000) (d:=999) rfl rfl rfl) ?_
 refine rg ?_
 obtain ⟨hc5,h⟩:=chk_some h
 refine ⟨_,sl_nat hc5.1,sl_own hc5,_,(List.map_take (f:=Go.Cat.encI)).symm,?_⟩
 refine wT [(4,.o 999)] [(999,.own 3 1 (mI ((v1.2.take (v1.1.toNat)++List.replicate (v1.2.length - (v1.1.toNat)) (0:Int)).take v1.1.toNat))),(1001,.box [vi p_b1]),(1002,.box [.s (mA p_b2)])] Q1 J3 rfl ?_
 refine rt ?_
 cases h
 exact wt Q1 J3 rfl
theorem wg_chainN6 {p_c} {p_disks} {r} (h:chain_whole p_c p_disks=some r):CallOk Tryz.prog 45 [(.a [(vi p_c.Id),(vi p_c.Ver),(.s (mI p_c.Servers))]),(.s (mA p_disks))] ⟨noSlots,[]⟩ fun x s=>x=(.c (.func 72) [] [(.b 2 0),(.b 3 0)])∧s.H=[(2,.box [(vi p_c.Id),(vi p_c.Ver),(.s (mI p_c.Servers))]),(3,.box [(.s (mA p_disks))])]:=by
 refine pgen_of_ok (n:=6) (c:=Tryz.f45.body.getD .skip) Tryz.tok Tryz.func45 (by kernel_rfl) rfl rfl (Nat.le_of_ble_eq_true rfl) ?_
 unfold chain_whole at h
 refine wE [(0,.a [vi p_c.Id,vi p_c.Ver,.s (mI p_c.Servers)]),(1,.s (mA p_disks))] Q2 ?_
 refine sg ?_
 refine wT [(2,.b 2 0),(3,.b 3 0)] [(2,.box [vi p_c.Id,vi p_c.Ver,.s (mI p_c.Servers)]),(3,.box [.s (mA p_disks)])] Q2 J2 rfl ?_
 refine sg ?_
 refine wT [(4,.c (.func 72) [] [.b 2 0,.b 3 0])] [(2,.box [vi p_c.Id,vi p_c.Ver,.s (mI p_c.Servers)]),(3,.box [.s (mA p_disks)])] Q1 J2 rfl ?_
 refine rt ?_
 cases h
 exact wt Q1 J2 rfl
theorem wg_chainN3 {l:Nat} {p_a1:Int} {p_a2:List UInt8} {p_b1:List UInt8} {p_b2:Bool} {r:Unit} (h:chainN31 p_a1 p_a2 p_b1 p_b2=some r):CallOk Tryz.prog (.y l) [(vi p_a1),(.s (mU p_a2))] ⟨noSlots,(1000,.lp l .rdy Tryz.rf53_0 [(4,(.b 1001 0)),(5,(.b 1002 0))])::[(1001,.box [(.s (mU p_b1))]),(1002,.box [(vb p_b2)])]⟩ fun x s=>x=.v (.bool (LS.isR .ret))∧s.H=(1000,.lp l .ret Tryz.rf53_0 [(4,(.b 1001 0)),(5,(.b 1002 0))])::[(1001,.box [(.s (mU p_a2))]),(1002,.box [(vb true)])]:=by
 letI:Rnds:=Rnds.yes
 refine yield_of_ok (e0:=.ret) (H1:=[(1001,.box [.s (mU p_a2)]),(1002,.box [vb true])]) (by kernel_rfl) (by kernel_rfl) rfl rfl rfl ?_
 unfold chainN31 at h
 refine wT [(4,.b 1001 0),(5,.b 1002 0),(11,vi p_a1),(12,.s (mU p_a2))] [(1001,.box [.s (mU p_b1)]),(1002,.box [vb p_b2])] Q4 J2 rfl ?_
 refine rg ?_
 refine wT [(4,.b 1001 0),(5,.b 1002 0),(7,.s (mU p_a2))] [(1001,.box [.s (mU p_b1)]),(1002,.box [vb p_b2])] Q3 J2 rfl ?_
 refine bl ?_
 refine sg ?_
 refine ⟨_,rfl,_,rfl,?_⟩
 refine wT [] [(1001,.box [.s (mU p_a2)]),(1002,.box [vb true])] Q0 J2 rfl ?_
 refine rt ?_
 cases h
 exact ⟨rfl,wt Q0 ⟨⟨_,rfl,.refl _⟩,⟨_,rfl,.refl _⟩,Q0⟩ rfl⟩
end Go.Proofs
