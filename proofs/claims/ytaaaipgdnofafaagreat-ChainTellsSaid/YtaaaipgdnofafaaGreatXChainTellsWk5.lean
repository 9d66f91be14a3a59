/- The walks of this seat beside the plain programs, part 5. No condition. -/
import Derived.Test.YtaaaipgdnofafaaGreatXChainTellsEn
import Derived.Test.YtaaaipgdnofafaaGreatXChainTellsWk0
import Derived.Test.YtaaaipgdnofafaaGreatXChainTellsWk1
import Derived.Test.YtaaaipgdnofafaaGreatXChainTellsWk2
import Derived.Test.YtaaaipgdnofafaaGreatXChainTellsWk3
import Derived.Test.YtaaaipgdnofafaaGreatXChainTellsWk4
namespace Go.Proofs
set_option linter.all false
open Go Go.Cat
variable [M:Mono]
set_option maxRecDepth 100000
theorem w_ref26_Cut {p_c} {p_disks} {p_server} {r} (h:ref26_Cut p_c p_disks p_server=some r):Pure Tryz.prog 24 [(.a [(vi p_c.Id),(vi p_c.Ver),(.s (mI p_c.Servers))]),(.s (mA p_disks)),(vi p_server)] (.t [(.a [(vi r.1.Id),(vi r.1.Ver),(.s (mI r.1.Servers))]),(.s (mA r.2.1)),(vi r.2.2)]):=by
 refine po Tryz.tok 104 Tryz.func24 (by kernel_rfl) rfl rfl rfl ?_
 unfold ref26_Cut at h
 refine wE [(0,.a [vi p_c.Id,vi p_c.Ver,.s (mI p_c.Servers)]),(1,.s (mA p_disks)),(2,vi p_server)] Q3 ?_
 refine sg ?_
 refine wT [(1,.s (mA p_disks)),(2,vi p_server),(3,.b 3 0),(6,.b 6 0)] [(3,.box [vi p_c.Id,vi p_c.Ver,.s (mI p_c.Servers)]),(6,.box [vi (0),vi (0),.v (.slice none 0 0)])] Q4 J2 rfl ?_
 refine sg ?_
 obtain ⟨x1,hx1,h⟩:=bindS h
 refine ⟨_,rfl,?_⟩
 refine CallOk.call (w_ref26_Has hx1) (LeL.refl _) ?_
 refine wT [(1,.s (mA p_disks)),(2,vi p_server),(3,.b 3 0),(6,.b 6 0),(9,vb x1)] [(3,.box [vi p_c.Id,vi p_c.Ver,.s (mI p_c.Servers)]),(6,.box [vi (0),vi (0),.v (.slice none 0 0)])] Q5 J2 rfl ?_
 refine sq ?_
 refine sg ?_
 refine wT [(1,.s (mA p_disks)),(2,vi p_server),(3,.b 3 0),(6,.b 6 0),(24,vb (!x1))] [(3,.box [vi p_c.Id,vi p_c.Ver,.s (mI p_c.Servers)]),(6,.box [vi (0),vi (0),.v (.slice none 0 0)])] Q5 J2 rfl ?_
 refine cn 24 (!x1) rfl h (fun hb h=>?_) fun hb h=>?_
 ·refine sg ?_
  refine ⟨_,rfl,_,rfl,?_⟩
  refine wT [(6,.b 6 0),(7,.s (mA p_disks)),(8,vi (1))] [(6,.box [vi p_c.Id,vi p_c.Ver,.s (mI p_c.Servers)])] Q3 J1 rfl ?_
  refine rt ?_
  cases h
  exact ⟨_,rfl,(Fz.t (.cons (Fz.imm rfl) (.cons Fz.s (.cons Fz.v .nil))))⟩
 refine sk ?_
 refine sq ?_
 refine sg ?_
 refine ⟨_,rfl,?_⟩
 refine wT [(1,.s (mA p_disks)),(2,vi p_server),(3,.b 3 0),(6,.b 6 0),(29,vb (decide (p_c.Ver≥1099511627776)))] [(3,.box [vi p_c.Id,vi p_c.Ver,.s (mI p_c.Servers)]),(6,.box [vi (0),vi (0),.v (.slice none 0 0)])] Q5 J2 rfl ?_
 refine cn 29 (decide (p_c.Ver≥1099511627776)) rfl h (fun hb h=>?_) fun hb h=>?_
 ·refine sg ?_
  refine ⟨_,rfl,_,rfl,?_⟩
  refine wT [(6,.b 6 0),(7,.s (mA p_disks)),(8,vi (76))] [(6,.box [vi p_c.Id,vi p_c.Ver,.s (mI p_c.Servers)])] Q3 J1 rfl ?_
  refine rt ?_
  cases h
  exact ⟨_,rfl,(Fz.t (.cons (Fz.imm rfl) (.cons Fz.s (.cons Fz.v .nil))))⟩
 refine sk ?_
 refine sg ?_
 obtain ⟨hc1,h⟩:=chk_some h
 refine ⟨_,rfl,_,rfl,(Or.inl ⟨hc1,_,rfl,?_⟩)⟩
 refine wT [(1,.s (mA p_disks)),(2,vi p_server),(3,.b 3 0),(6,.b 6 0),(10,.b 10 0)] [(3,.box [vi p_c.Id,vi p_c.Ver,.s (mI p_c.Servers)]),(6,.box [vi (0),vi (0),.v (.slice none 0 0)]),(10,.box [vi p_c.Id,vi (p_c.Ver+1),.v (.slice none 0 0)])] Q5 J3 rfl ?_
 refine sg ?_
 refine sg ?_
 refine wT [(1,.s (mA p_disks)),(2,vi p_server),(3,.b 3 0),(6,.b 6 0),(10,.b 10 0),(11,.v (.slice none 0 0)),(12,vb false)] [(3,.box [vi p_c.Id,vi p_c.Ver,.s (mI p_c.Servers)]),(6,.box [vi (0),vi (0),.v (.slice none 0 0)]),(10,.box [vi p_c.Id,vi (p_c.Ver+1),.v (.slice none 0 0)])] Q7 J3 rfl ?_
 obtain ⟨v1,hv1,h⟩:=bindS h
 refine Ok.seqw ⟨Cat.tab [(1,.s (mA p_disks)),(3,.b 3 0),(6,.b 6 0),(10,.b 10 0),(11,.s (mU v1.1)),(12,vb v1.2.1)],[(3,.box [vi p_c.Id,vi p_c.Ver,.s (mI p_c.Servers)]),(6,.box [vi (0),vi (0),.v (.slice none 0 0)]),(10,.box [vi p_c.Id,vi (p_c.Ver+1),.o 64]),(64,.own 3 1 (mI v1.2.2))]⟩ ?_ ?_
 ·refine sg ?_
  refine wT [(1,.s (mA p_disks)),(2,vi p_server),(3,.b 3 0),(6,.b 6 0),(10,.b 10 0),(11,.v (.slice none 0 0)),(12,vb false),(13,vi (0))] [(3,.box [vi p_c.Id,vi p_c.Ver,.s (mI p_c.Servers)]),(6,.box [vi (0),vi (0),.v (.slice none 0 0)]),(10,.box [vi p_c.Id,vi (p_c.Ver+1),.v (.slice none 0 0)])] Q8 J3 rfl ?_
  refine bl ?_
  refine Ok.loop (fun (s1:(List UInt8)×Bool×Int×(List Int))=>⟨Cat.tab [(1,.s (mA p_disks)),(2,vi p_server),(3,.b 3 0),(6,.b 6 0),(10,.b 10 0),(11,.s (mU s1.1)),(12,vb s1.2.1),(13,vi s1.2.2.1)],[(3,.box [vi p_c.Id,vi p_c.Ver,.s (mI p_c.Servers)]),(6,.box [vi (0),vi (0),.v (.slice none 0 0)]),(10,.box [vi p_c.Id,vi (p_c.Ver+1),.o 64]),(64,.own 3 1 (mI s1.2.2.2))]⟩) (ref26N1 p_c p_server p_disks) (s0:=([],false,0,[])) hv1 ((Wk.ownb (b:=10) (q:=2) (id:=64) (E:=3) (K:=1) rfl rfl rfl).trans (wt ⟨lr,lr,lr,lr,lr,Le.nil,Q2⟩ ⟨⟨_,rfl,.refl _⟩,⟨_,rfl,.refl _⟩,⟨_,rfl,.refl _⟩,⟨_,rfl,.refl _⟩,Q0⟩ rfl)) ?_
  intro s1 y1 hB1 hy1
  unfold ref26N1 at hB1
  refine sq ?_
  refine sg ?_
  refine ⟨_,rfl,_,List.length_map _,fun _=>?_⟩
  refine cn 42 (decide (s1.2.2.1 < (p_c.Servers.length:Int))) rfl hB1 (fun hb hB1=>?_) fun hb hB1=>?_
  ·refine sk ?_
   obtain ⟨v2,hv2,hB1⟩:=bindS hB1
   refine Ok.seqw ⟨Cat.tab [(1,.s (mA p_disks)),(2,vi p_server),(3,.b 3 0),(6,.b 6 0),(10,.b 10 0),(11,.s (mU v2.1)),(12,vb v2.2.1),(13,vi s1.2.2.1)],[(3,.box [vi p_c.Id,vi p_c.Ver,.s (mI p_c.Servers)]),(6,.box [vi (0),vi (0),.v (.slice none 0 0)]),(10,.box [vi p_c.Id,vi (p_c.Ver+1),.o 64]),(64,.own 3 1 (mI v2.2.2))]⟩ ?_ ?_
   ·refine bl ?_
    refine sg ?_
    obtain ⟨x2,hx2,hv2⟩:=bindS hv2
    refine ⟨_,rfl,_,idx_nat hx2,_,idx_row hx2,_,rfl,?_⟩
    refine wT [(1,.s (mA p_disks)),(2,vi p_server),(3,.b 3 0),(6,.b 6 0),(10,.b 10 0),(11,.s (mU s1.1)),(12,vb s1.2.1),(13,vi s1.2.2.1),(14,vi x2)] [(3,.box [vi p_c.Id,vi p_c.Ver,.s (mI p_c.Servers)]),(6,.box [vi (0),vi (0),.v (.slice none 0 0)]),(10,.box [vi p_c.Id,vi (p_c.Ver+1),.o 64]),(64,.own 3 1 (mI s1.2.2.2))] ⟨lr,Q8⟩ J4 rfl ?_
    refine sq ?_
    obtain ⟨v3,hv3,hv2⟩:=bindS hv2
    refine Ok.seqw ⟨Cat.tab [(1,.s (mA p_disks)),(2,vi p_server),(3,.b 3 0),(6,.b 6 0),(10,.b 10 0),(11,.s (mU s1.1)),(12,vb s1.2.1),(13,vi s1.2.2.1),(14,vi x2),(59,vb v3)],[(3,.box [vi p_c.Id,vi p_c.Ver,.s (mI p_c.Servers)]),(6,.box [vi (0),vi (0),.v (.slice none 0 0)]),(10,.box [vi p_c.Id,vi (p_c.Ver+1),.o 64]),(64,.own 3 1 (mI s1.2.2.2))]⟩ ?_ ?_
    ·refine rg ?_
     obtain ⟨c1,hg1,hv3⟩:=bindS hv3
     refine Br.itf hg1 (fun hb hg1=>?_) fun hb hg1=>?_
     ·cases hg1
      cases hv3
      exact wt ⟨lr,lr,Q8⟩ J4 rfl
     obtain ⟨x3,hx3,hg1⟩:=bindS hg1
     refine ⟨_,idx_nat hx3,_,idx_row hx3,_,rfl,?_⟩
     cases hg1
     cases hv3
     exact wt ⟨lr,lr,Q8⟩ J4 rfl
    refine cn 59 (v3) rfl hv2 (fun hb hv2=>?_) fun hb hv2=>?_
    ·refine xt ?_
     cases hv2
     exact wt Q8 J4 rfl
    refine sk ?_
    refine sg ?_
    obtain ⟨hc2,hv2⟩:=chk_some hv2
    refine ⟨_,rfl,Or.inl ⟨rowsLen_map (f:=Go.Cat.encI) (n:=1) (fun _=>rfl) ([x2]),app_b2 (f:=Go.Cat.encI) (l:=s1.2.2.2) (l':=[x2]) hc2,_,(List.map_append (f:=Go.Cat.encI) (l₁:=s1.2.2.2) (l₂:=[x2])).symm,_,rfl,?_⟩⟩
    refine wT [(1,.s (mA p_disks)),(2,vi p_server),(3,.b 3 0),(6,.b 6 0),(10,.b 10 0),(11,.s (mU s1.1)),(12,vb s1.2.1),(13,vi s1.2.2.1),(14,vi x2)] [(3,.box [vi p_c.Id,vi p_c.Ver,.s (mI p_c.Servers)]),(6,.box [vi (0),vi (0),.v (.slice none 0 0)]),(10,.box [vi p_c.Id,vi (p_c.Ver+1),.o 64]),(64,.own 3 1 (mI (s1.2.2.2++[x2])))] ⟨lr,Q8⟩ J4 rfl ?_
    refine sg ?_
    obtain ⟨x4,hx4,hv2⟩:=bindS hv2
    refine ⟨_,rfl,?_⟩
    refine CallOk.call (w_ref26N9 hx4) (LeL.refl _) ?_
    obtain ⟨v4,hv4,hv2⟩:=bindS hv2
    refine Ok.seqw ⟨Cat.tab [(1,.s (mA p_disks)),(2,vi p_server),(3,.b 3 0),(6,.b 6 0),(10,.b 10 0),(11,.s (mU s1.1)),(12,vb s1.2.1),(13,vi s1.2.2.1),(15,.s (mU x4.1)),(77,vb v4)],[(3,.box [vi p_c.Id,vi p_c.Ver,.s (mI p_c.Servers)]),(6,.box [vi (0),vi (0),.v (.slice none 0 0)]),(10,.box [vi p_c.Id,vi (p_c.Ver+1),.o 64]),(64,.own 3 1 (mI (s1.2.2.2++[x2])))]⟩ ?_ ?_
    ·refine rg ?_
     obtain ⟨c2,hg2,hv4⟩:=bindS hv4
     refine Br.ite hg2 (fun hb hg2=>?_) fun hb hg2=>?_
     ·cases hg2
      cases hv4
      exact wt ⟨lr,lr,Q8⟩ J4 rfl
     cases hg2
     cases hv4
     exact wt ⟨lr,lr,Q8⟩ J4 rfl
    refine cn 77 (v4) rfl hv2 (fun hb hv2=>?_) fun hb hv2=>?_
    ·refine sg ?_
     refine wT [(1,.s (mA p_disks)),(2,vi p_server),(3,.b 3 0),(6,.b 6 0),(10,.b 10 0),(11,.s (mU x4.1)),(13,vi s1.2.2.1)] [(3,.box [vi p_c.Id,vi p_c.Ver,.s (mI p_c.Servers)]),(6,.box [vi (0),vi (0),.v (.slice none 0 0)]),(10,.box [vi p_c.Id,vi (p_c.Ver+1),.o 64]),(64,.own 3 1 (mI (s1.2.2.2++[x2])))] Q7 J4 rfl ?_
     refine rg ?_
     cases hv2
     exact wt Q8 J4 rfl
    refine sk ?_
    cases hv2
    exact wt Q8 J4 rfl
   refine rg ?_
   obtain ⟨hc3,hB1⟩:=chk_some hB1
   refine (Or.inl ⟨hc3,?_⟩)
   exact ⟨_,sj hB1,wt Q8 J4 rfl⟩
  refine xt ?_
  have hB1:=out_ret hB1 hy1
  cases hB1
  exact wt Q6 J4 rfl
 refine sq ?_
 refine sg ?_
 refine wT [(1,.s (mA p_disks)),(3,.b 3 0),(6,.b 6 0),(10,.b 10 0),(11,.s (mU v1.1)),(80,vb (!v1.2.1))] [(3,.box [vi p_c.Id,vi p_c.Ver,.s (mI p_c.Servers)]),(6,.box [vi (0),vi (0),.v (.slice none 0 0)]),(10,.box [vi p_c.Id,vi (p_c.Ver+1),.o 64]),(64,.own 3 1 (mI v1.2.2))] Q6 J4 rfl ?_
 refine cn 80 (!v1.2.1) rfl h (fun hb h=>?_) fun hb h=>?_
 ·refine sg ?_
  refine ⟨_,rfl,_,rfl,?_⟩
  refine wT [(6,.b 6 0),(7,.s (mA p_disks)),(8,vi (260))] [(6,.box [vi p_c.Id,vi p_c.Ver,.s (mI p_c.Servers)])] Q3 J1 rfl ?_
  refine rt ?_
  cases h
  exact ⟨_,rfl,(Fz.t (.cons (Fz.imm rfl) (.cons Fz.s (.cons Fz.v .nil))))⟩
 refine sk ?_
 refine sg ?_
 refine wT [(6,.b 6 0),(10,.b 10 0),(11,.s (mU v1.1)),(17,.s (mA p_disks))] [(6,.box [vi (0),vi (0),.v (.slice none 0 0)]),(10,.box [vi p_c.Id,vi (p_c.Ver+1),.o 64]),(64,.own 3 1 (mI v1.2.2))] Q4 J3 rfl ?_
 obtain ⟨v5,hv5,h⟩:=bindS h
 refine Ok.seqw ⟨Cat.tab [(6,.b 6 0),(10,.b 10 0),(17,.s (mA v5))],[(6,.box [vi (0),vi (0),.v (.slice none 0 0)]),(10,.box [vi p_c.Id,vi (p_c.Ver+1),.s (mI v1.2.2)])]⟩ ?_ ?_
 ·refine sg ?_
  refine wT [(6,.b 6 0),(10,.b 10 0),(11,.s (mU v1.1)),(17,.s (mA p_disks)),(18,vi (0))] [(6,.box [vi (0),vi (0),.v (.slice none 0 0)]),(10,.box [vi p_c.Id,vi (p_c.Ver+1),.o 64]),(64,.own 3 1 (mI v1.2.2))] Q5 J3 rfl ?_
  refine bl ?_
  refine Ok.loop (fun (s2:(List api_Disk)×Int)=>⟨Cat.tab [(6,.b 6 0),(10,.b 10 0),(11,.s (mU v1.1)),(17,.s (mA s2.1)),(18,vi s2.2)],[(6,.box [vi (0),vi (0),.v (.slice none 0 0)]),(10,.box [vi p_c.Id,vi (p_c.Ver+1),.s (mI v1.2.2)])]⟩) (ref26N2 v1 p_c) (s0:=(p_disks,0)) hv5 ((Wk.freeze (id:=64) rfl).trans (wt Q5 ⟨⟨_,rfl,.refl _⟩,⟨_,rfl,.refl _⟩,Q0⟩ rfl)) ?_
  intro s2 y2 hB2 hy2
  unfold ref26N2 at hB2
  refine sq ?_
  refine sg ?_
  refine ⟨_,rfl,_,List.length_map _,fun _=>?_⟩
  refine cn 88 (decide (s2.2 < (v1.2.2.length:Int))) rfl hB2 (fun hb hB2=>?_) fun hb hB2=>?_
  ·refine sk ?_
   refine sq ?_
   refine bl ?_
   refine Ok.draw (m:=11) (MD:=⟨[]⟩) (CH:=⟨[]⟩) Tryz.tok Tryz.mixed (by kernel_rfl) ?_
   obtain ⟨x5,hx5,hB2⟩:=bindS hB2
   obtain ⟨x6,hx6,hB2⟩:=bindS hB2
   refine ⟨_,⟨_,rfl,rfl⟩,_,rfl,_,rfl,_,⟨_,rfl,rfl⟩,_,rfl,_,⟨_,idx_nat hx5,_,idx_row hx5,rfl⟩,_,⟨_,rfl,rfl⟩,_,rfl,_,⟨_,rfl,rfl⟩,_,rfl,_,⟨_,.of_pure (w_ref26_Lay hx6) (LeL.refl _),rfl⟩,Q0,?_⟩
   refine wT [(6,.b 6 0),(10,.b 10 0),(11,.s (mU v1.1)),(17,.s (mA x6)),(18,vi s2.2)] [(6,.box [vi (0),vi (0),.v (.slice none 0 0)]),(10,.box [vi p_c.Id,vi (p_c.Ver+1),.s (mI v1.2.2)])] Q5 J2 rfl ?_
   refine rg ?_
   obtain ⟨hc4,hB2⟩:=chk_some hB2
   refine (Or.inl ⟨hc4,?_⟩)
   exact ⟨_,sj hB2,wt Q5 J2 rfl⟩
  refine xt ?_
  have hB2:=out_ret hB2 hy2
  cases hB2
  exact wt Q3 J2 rfl
 refine sg ?_
 refine ⟨_,rfl,_,rfl,?_⟩
 refine wT [(6,.b 6 0),(7,.s (mA v5)),(8,vi (0))] [(6,.box [vi p_c.Id,vi (p_c.Ver+1),.s (mI v1.2.2)])] Q3 J1 rfl ?_
 refine rt ?_
 cases h
 exact ⟨_,rfl,(Fz.t (.cons (Fz.imm rfl) (.cons Fz.s (.cons Fz.v .nil))))⟩
theorem w_ref26N6 {p_c} {p_disks} {r} (h:ref26_Read p_c p_disks=some r):Pure Tryz.prog 31 [(.a [(vi p_c.Id),(vi p_c.Ver),(.s (mI p_c.Servers))]),(.s (mA p_disks))] (.t [(.s (mU r.1)),(vi r.2)]):=by
 refine po Tryz.tok 35 Tryz.func31 (by kernel_rfl) rfl rfl rfl ?_
 unfold ref26_Read at h
 refine wE [(0,.a [vi p_c.Id,vi p_c.Ver,.s (mI p_c.Servers)]),(1,.s (mA p_disks))] Q2 ?_
 refine sg ?_
 refine wT [(1,.s (mA p_disks)),(2,.b 2 0)] [(2,.box [vi p_c.Id,vi p_c.Ver,.s (mI p_c.Servers)])] Q2 J1 rfl ?_
 refine sq ?_
 refine Ok.draw2 (m:=18) (late:=[16]) (MD:=⟨[]⟩) (CH:=⟨[]⟩) Tryz.tok Tryz.mixed (by kernel_rfl) ?_
 obtain ⟨hc1,h⟩:=chk_some h
 obtain ⟨x1,hx1,h⟩:=bindS h
 obtain ⟨x2,hx2,h⟩:=bindS h
 obtain ⟨x3,hx3,h⟩:=bindS h
 refine ⟨_,rfl,_,rfl,_,⟨_,rfl,rfl⟩,_,rfl,_,⟨_,rfl,rfl⟩,_,⟨_,List.length_map _,fun _=>rfl⟩,_,Or.inl ⟨hc1,rfl⟩,_,⟨_,idx_nat hx1,_,idx_row hx1,rfl⟩,_,⟨_,rfl,rfl⟩,_,⟨_,idx_nat hx2,_,idx_row hx2,rfl⟩,_,⟨_,rfl,rfl⟩,_,rfl,_,⟨_,rfl,rfl⟩,_,⟨_,.of_pure (w_ref25_Get hx3) (LeL.refl _),rfl⟩,_,rfl,_,rfl,_,rfl,Q0,?_⟩
 refine ⟨_,rfl,⟨⟨_,rfl,rfl⟩,Q0⟩,?_⟩
 refine wT [(2,.b 2 0),(6,.b 6 0),(7,vi x3.2)] [(2,.box [vi p_c.Id,vi p_c.Ver,.s (mI p_c.Servers)]),(6,.box [vi x3.1.Id,vi x3.1.Ver,.s (mU x3.1.Data),.s (mI x3.1.Sums)])] Q3 J2 rfl ?_
 refine sq ?_
 refine sg ?_
 refine wT [(2,.b 2 0),(6,.b 6 0),(7,vi x3.2),(26,vb (x3.2 != 0))] [(2,.box [vi p_c.Id,vi p_c.Ver,.s (mI p_c.Servers)]),(6,.box [vi x3.1.Id,vi x3.1.Ver,.s (mU x3.1.Data),.s (mI x3.1.Sums)])] Q4 J2 rfl ?_
 refine cn 26 (x3.2 != 0) rfl h (fun hb h=>?_) fun hb h=>?_
 ·refine sg ?_
  refine wE [(4,.v (.slice none 0 0)),(5,vi x3.2)] Q2 ?_
  refine rt ?_
  cases h
  exact (Fz.t (.cons Fz.nil (.cons Fz.v .nil)))
 refine sk ?_
 refine sq ?_
 refine sg ?_
 refine ⟨_,rfl,_,rfl,?_⟩
 refine wT [(6,.b 6 0),(32,vb (x3.1.Ver != p_c.Ver))] [(6,.box [vi x3.1.Id,vi x3.1.Ver,.s (mU x3.1.Data),.s (mI x3.1.Sums)])] Q2 J1 rfl ?_
 refine cn 32 (x3.1.Ver != p_c.Ver) rfl h (fun hb h=>?_) fun hb h=>?_
 ·refine sg ?_
  refine wE [(4,.v (.slice none 0 0)),(5,vi (250))] Q2 ?_
  refine rt ?_
  cases h
  exact (Fz.t (.cons Fz.nil (.cons Fz.v .nil)))
 refine sk ?_
 refine sg ?_
 refine ⟨_,rfl,?_⟩
 refine wE [(4,.s (mU x3.1.Data)),(5,vi (0))] Q2 ?_
 refine rt ?_
 cases h
 exact (Fz.t (.cons Fz.s (.cons Fz.v .nil)))
theorem w_ref26N4 {p_c} {p_disks} {p_server} {r} (h:ref26_Mend p_c p_disks p_server=some r):Pure Tryz.prog 26 [(.a [(vi p_c.Id),(vi p_c.Ver),(.s (mI p_c.Servers))]),(.s (mA p_disks)),(vi p_server)] (.t [(.a [(vi r.1.Id),(vi r.1.Ver),(.s (mI r.1.Servers))]),(.s (mA r.2.1)),(vi r.2.2)]):=by
 refine po Tryz.tok 79 Tryz.func26 (by kernel_rfl) rfl rfl rfl ?_
 unfold ref26_Mend at h
 refine wE [(0,.a [vi p_c.Id,vi p_c.Ver,.s (mI p_c.Servers)]),(1,.s (mA p_disks)),(2,vi p_server)] Q3 ?_
 refine sg ?_
 refine wT [(1,.s (mA p_disks)),(2,vi p_server),(3,.b 3 0),(6,.b 6 0)] [(3,.box [vi p_c.Id,vi p_c.Ver,.s (mI p_c.Servers)]),(6,.box [vi (0),vi (0),.v (.slice none 0 0)])] Q4 J2 rfl ?_
 refine sg ?_
 obtain ⟨x1,hx1,h⟩:=bindS h
 refine ⟨_,rfl,?_⟩
 refine CallOk.call (w_ref26_Has hx1) (LeL.refl _) ?_
 refine wT [(1,.s (mA p_disks)),(2,vi p_server),(3,.b 3 0),(6,.b 6 0),(9,vb x1)] [(3,.box [vi p_c.Id,vi p_c.Ver,.s (mI p_c.Servers)]),(6,.box [vi (0),vi (0),.v (.slice none 0 0)])] Q5 J2 rfl ?_
 refine sq ?_
 obtain ⟨v1,hv1,h⟩:=bindS h
 refine Ok.seqw ⟨Cat.tab [(1,.s (mA p_disks)),(2,vi p_server),(3,.b 3 0),(6,.b 6 0),(27,vb v1)],[(3,.box [vi p_c.Id,vi p_c.Ver,.s (mI p_c.Servers)]),(6,.box [vi (0),vi (0),.v (.slice none 0 0)])]⟩ ?_ ?_
 ·refine rg ?_
  obtain ⟨c1,hg1,hv1⟩:=bindS hv1
  refine Br.itf hg1 (fun hb hg1=>?_) fun hb hg1=>?_
  ·cases hg1
   obtain ⟨c2,hg2,hv1⟩:=bindS hv1
   replace hg2:=iteT hg2
   cases hg2
   cases hv1
   exact wt Q5 J2 rfl
  cases hg1
  obtain ⟨c2,hg3,hv1⟩:=bindS hv1
  refine Br.itf hg3 (fun hb hg3=>?_) fun hb hg3=>?_
  ·cases hg3
   cases hv1
   exact wt Q5 J2 rfl
  refine ⟨_,List.length_map _,fun _=>?_⟩
  cases hg3
  cases hv1
  exact wt Q5 J2 rfl
 refine cn 27 (v1) rfl h (fun hb h=>?_) fun hb h=>?_
 ·refine sg ?_
  refine ⟨_,rfl,_,rfl,?_⟩
  refine wT [(6,.b 6 0),(7,.s (mA p_disks)),(8,vi (1))] [(6,.box [vi p_c.Id,vi p_c.Ver,.s (mI p_c.Servers)])] Q3 J1 rfl ?_
  refine rt ?_
  cases h
  exact ⟨_,rfl,(Fz.t (.cons (Fz.imm rfl) (.cons Fz.s (.cons Fz.v .nil))))⟩
 refine sk ?_
 refine sq ?_
 refine sg ?_
 refine ⟨_,rfl,_,List.length_map _,fun _=>?_⟩
 refine wT [(1,.s (mA p_disks)),(2,vi p_server),(3,.b 3 0),(6,.b 6 0),(33,vb (decide ((p_c.Servers.length:Int)≥5)))] [(3,.box [vi p_c.Id,vi p_c.Ver,.s (mI p_c.Servers)]),(6,.box [vi (0),vi (0),.v (.slice none 0 0)])] Q5 J2 rfl ?_
 refine cn 33 (decide ((p_c.Servers.length:Int)≥5)) rfl h (fun hb h=>?_) fun hb h=>?_
 ·refine sg ?_
  refine ⟨_,rfl,_,rfl,?_⟩
  refine wT [(6,.b 6 0),(7,.s (mA p_disks)),(8,vi (76))] [(6,.box [vi p_c.Id,vi p_c.Ver,.s (mI p_c.Servers)])] Q3 J1 rfl ?_
  refine rt ?_
  cases h
  exact ⟨_,rfl,(Fz.t (.cons (Fz.imm rfl) (.cons Fz.s (.cons Fz.v .nil))))⟩
 refine sk ?_
 refine sq ?_
 refine sg ?_
 obtain ⟨x2,hx2,h⟩:=bindS h
 refine ⟨_,idx_nat hx2,_,idx_row hx2,_,rfl,?_⟩
 refine wT [(1,.s (mA p_disks)),(2,vi p_server),(3,.b 3 0),(6,.b 6 0),(40,vb x2.Down)] [(3,.box [vi p_c.Id,vi p_c.Ver,.s (mI p_c.Servers)]),(6,.box [vi (0),vi (0),.v (.slice none 0 0)])] Q5 J2 rfl ?_
 refine cn 40 (x2.Down) rfl h (fun hb h=>?_) fun hb h=>?_
 ·refine sg ?_
  refine ⟨_,rfl,_,rfl,?_⟩
  refine wT [(6,.b 6 0),(7,.s (mA p_disks)),(8,vi (40))] [(6,.box [vi p_c.Id,vi p_c.Ver,.s (mI p_c.Servers)])] Q3 J1 rfl ?_
  refine rt ?_
  cases h
  exact ⟨_,rfl,(Fz.t (.cons (Fz.imm rfl) (.cons Fz.s (.cons Fz.v .nil))))⟩
 refine sk ?_
 refine sg ?_
 obtain ⟨x3,hx3,h⟩:=bindS h
 refine ⟨_,rfl,?_⟩
 refine CallOk.call (w_ref26N6 hx3) (LeL.refl _) ?_
 refine wT [(1,.s (mA p_disks)),(2,vi p_server),(3,.b 3 0),(6,.b 6 0),(10,.s (mU x3.1)),(11,vi x3.2)] [(3,.box [vi p_c.Id,vi p_c.Ver,.s (mI p_c.Servers)]),(6,.box [vi (0),vi (0),.v (.slice none 0 0)])] Q6 J2 rfl ?_
 refine sq ?_
 refine sg ?_
 refine cn 50 (x3.2 != 0) rfl h (fun hb h=>?_) fun hb h=>?_
 ·refine sg ?_
  refine ⟨_,rfl,_,rfl,?_⟩
  refine wT [(6,.b 6 0),(7,.s (mA p_disks)),(8,vi x3.2)] [(6,.box [vi p_c.Id,vi p_c.Ver,.s (mI p_c.Servers)])] Q3 J1 rfl ?_
  refine rt ?_
  cases h
  exact ⟨_,rfl,(Fz.t (.cons (Fz.imm rfl) (.cons Fz.s (.cons Fz.v .nil))))⟩
 refine sk ?_
 refine sg ?_
 refine ⟨_,rfl,_,rfl,_,rfl,?_⟩
 refine wT [(1,.s (mA p_disks)),(2,vi p_server),(3,.b 3 0),(6,.b 6 0),(10,.s (mU x3.1)),(12,.b 12 0)] [(3,.box [vi p_c.Id,vi p_c.Ver,.s (mI p_c.Servers)]),(6,.box [vi (0),vi (0),.v (.slice none 0 0)]),(12,.box [vi p_c.Id,vi p_c.Ver,.v (.slice none 0 0)])] Q6 J3 rfl ?_
 refine sg ?_
 obtain ⟨hc1,h⟩:=chk_some h
 refine ⟨_,rfl,_,rfl,rowsLen_map (f:=Go.Cat.encI) (n:=1) (fun _=>rfl) p_c.Servers,app_b1 (f:=Go.Cat.encI) (l':=p_c.Servers) hc1,_,rfl,_,rfl,?_⟩
 refine sg ?_
 obtain ⟨hc2,h⟩:=chk_some h
 refine ⟨_,rfl,Or.inl ⟨rowsLen_map (f:=Go.Cat.encI) (n:=1) (fun _=>rfl) ([p_server]),app_b2 (f:=Go.Cat.encI) (l:=p_c.Servers) (l':=[p_server]) hc2,_,(List.map_append (f:=Go.Cat.encI) (l₁:=p_c.Servers) (l₂:=[p_server])).symm,_,rfl,?_⟩⟩
 refine wT [(1,.s (mA p_disks)),(2,vi p_server),(3,.b 3 0),(6,.b 6 0),(10,.s (mU x3.1)),(12,.b 12 0)] [(3,.box [vi p_c.Id,vi p_c.Ver,.s (mI p_c.Servers)]),(6,.box [vi (0),vi (0),.v (.slice none 0 0)]),(12,.box [vi p_c.Id,vi p_c.Ver,.o 63]),(63,.own 3 1 (mI (p_c.Servers++[p_server])))] Q6 J4 rfl ?_
 refine sq ?_
 refine Ok.draw (m:=8) (MD:=⟨[]⟩) (CH:=⟨[]⟩) Tryz.tok Tryz.mixed (by kernel_rfl) ?_
 obtain ⟨x4,hx4,h⟩:=bindS h
 refine ⟨_,⟨_,rfl,rfl⟩,_,⟨_,rfl,rfl⟩,_,rfl,_,rfl,_,rfl,_,⟨_,rfl,rfl⟩,_,rfl,_,⟨_,.of_pure (w_ref26_Lay hx4) (LeL.refl _),rfl⟩,Q0,_,rfl,?_⟩
 refine wT [(6,.b 6 0),(7,.s (mA x4)),(8,vi (0))] [(6,.box [vi p_c.Id,vi p_c.Ver,.o 63]),(63,.own 3 1 (mI (p_c.Servers++[p_server])))] Q3 J2 rfl ?_
 refine rt ?_
 cases h
 exact ⟨_,rfl,(Fz.t (.cons (Fz.a (.cons Fz.v (.cons Fz.v (.cons (Fz.o rfl) .nil)))) (.cons Fz.s (.cons Fz.v .nil))))⟩
theorem w_ref26N5 {p_c} {p_disks} {p_server} {r} (h:ref26_Patch p_c p_disks p_server=some r):Pure Tryz.prog 28 [(.a [(vi p_c.Id),(vi p_c.Ver),(.s (mI p_c.Servers))]),(.s (mA p_disks)),(vi p_server)] (.t [(.s (mA r.1)),(vi r.2)]):=by
 refine po Tryz.tok 114 Tryz.func28 (by kernel_rfl) rfl rfl rfl ?_
 unfold ref26_Patch at h
 refine wE [(0,.a [vi p_c.Id,vi p_c.Ver,.s (mI p_c.Servers)]),(1,.s (mA p_disks)),(2,vi p_server)] Q3 ?_
 refine sg ?_
 refine wT [(1,.s (mA p_disks)),(2,vi p_server),(3,.b 3 0)] [(3,.box [vi p_c.Id,vi p_c.Ver,.s (mI p_c.Servers)])] Q3 J1 rfl ?_
 refine sg ?_
 obtain ⟨x1,hx1,h⟩:=bindS h
 refine ⟨_,rfl,?_⟩
 refine CallOk.call (w_ref26_Has hx1) (LeL.refl _) ?_
 refine wT [(1,.s (mA p_disks)),(2,vi p_server),(3,.b 3 0),(8,vb x1)] [(3,.box [vi p_c.Id,vi p_c.Ver,.s (mI p_c.Servers)])] Q4 J1 rfl ?_
 refine sq ?_
 refine sg ?_
 refine wT [(1,.s (mA p_disks)),(2,vi p_server),(3,.b 3 0),(24,vb (!x1))] [(3,.box [vi p_c.Id,vi p_c.Ver,.s (mI p_c.Servers)])] Q4 J1 rfl ?_
 refine cn 24 (!x1) rfl h (fun hb h=>?_) fun hb h=>?_
 ·refine sg ?_
  refine wE [(6,.s (mA p_disks)),(7,vi (1))] Q2 ?_
  refine rt ?_
  cases h
  exact (Fz.t (.cons Fz.s (.cons Fz.v .nil)))
 refine sk ?_
 refine sg ?_
 refine wT [(1,.s (mA p_disks)),(2,vi p_server),(3,.b 3 0),(9,vi (0))] [(3,.box [vi p_c.Id,vi p_c.Ver,.s (mI p_c.Servers)])] Q4 J1 rfl ?_
 refine Ok.seqj (fun v1=>⟨Cat.tab [(1,.s (mA p_disks)),(2,vi p_server),(3,.b 3 0),(9,vi v1)],[(3,.box [vi p_c.Id,vi p_c.Ver,.s (mI p_c.Servers)])]⟩) (fun v1=>ref26N24 p_c p_disks p_server v1=some r) ?_ ?_
 ·refine sg ?_
  refine wT [(1,.s (mA p_disks)),(2,vi p_server),(3,.b 3 0),(9,vi (0)),(10,vi (0))] [(3,.box [vi p_c.Id,vi p_c.Ver,.s (mI p_c.Servers)])] Q5 J1 rfl ?_
  refine bl ?_
  refine Ok.loop (fun (s1:Int×Int)=>⟨Cat.tab [(1,.s (mA p_disks)),(2,vi p_server),(3,.b 3 0),(9,vi s1.1),(10,vi s1.2)],[(3,.box [vi p_c.Id,vi p_c.Ver,.s (mI p_c.Servers)])]⟩) (ref26N21 p_c p_disks p_server) (s0:=(0,0)) h (wt Q5 ⟨⟨_,rfl,.refl _⟩,Q0⟩ rfl) ?_
  intro s1 y1 hB1 hy1
  unfold ref26N21 at hB1
  refine sq ?_
  refine sg ?_
  refine ⟨_,rfl,_,List.length_map _,fun _=>?_⟩
  refine wT [(1,.s (mA p_disks)),(2,vi p_server),(3,.b 3 0),(9,vi s1.1),(10,vi s1.2),(30,vb (decide (s1.2 < (p_c.Servers.length:Int))))] [(3,.box [vi p_c.Id,vi p_c.Ver,.s (mI p_c.Servers)])] Q6 J1 rfl ?_
  refine cn 30 (decide (s1.2 < (p_c.Servers.length:Int))) rfl hB1 (fun hb hB1=>?_) fun hb hB1=>?_
  ·refine sk ?_
   refine Ok.seqj (fun v2=>⟨Cat.tab [(1,.s (mA p_disks)),(2,vi p_server),(3,.b 3 0),(9,vi v2),(10,vi s1.2)],[(3,.box [vi p_c.Id,vi p_c.Ver,.s (mI p_c.Servers)])]⟩) (fun v2=>ref26N25 s1 v2=some y1) ?_ ?_
   ·refine bl ?_
    refine sq ?_
    refine sg ?_
    obtain ⟨x2,hx2,hB1⟩:=bindS hB1
    obtain ⟨x3,hx3,hB1⟩:=bindS hB1
    refine ⟨_,rfl,_,idx_nat hx2,_,idx_row hx2,_,rfl,_,idx_nat hx3,_,idx_row hx3,_,rfl,?_⟩
    refine wT [(1,.s (mA p_disks)),(2,vi p_server),(3,.b 3 0),(9,vi s1.1),(10,vi s1.2),(41,vb x3.Down)] [(3,.box [vi p_c.Id,vi p_c.Ver,.s (mI p_c.Servers)])] Q6 J1 rfl ?_
    refine cn 41 (x3.Down) rfl hB1 (fun hb hB1=>?_) fun hb hB1=>?_
    ·refine sg ?_
     refine wE [(6,.s (mA p_disks)),(7,vi (40))] Q2 ?_
     refine rt ?_
     have hB1:=out_ret hB1 hy1
     cases hB1
     exact (Fz.t (.cons Fz.s (.cons Fz.v .nil)))
    refine sk ?_
    refine sg ?_
    obtain ⟨x4,hx4,hB1⟩:=bindS hB1
    refine ⟨_,rfl,_,idx_nat hx4,_,idx_row hx4,_,rfl,?_⟩
    refine wT [(1,.s (mA p_disks)),(2,vi p_server),(3,.b 3 0),(9,vi s1.1),(10,vi s1.2),(49,vb (x4 == p_server))] [(3,.box [vi p_c.Id,vi p_c.Ver,.s (mI p_c.Servers)])] Q6 J1 rfl ?_
    refine cn 49 (x4 == p_server) rfl hB1 (fun hb hB1=>?_) fun hb hB1=>?_
    ·refine rg ?_
     exact ⟨_,hB1,wt Q5 ⟨⟨_,rfl,.refl _⟩,Q0⟩ rfl⟩
    refine sk ?_
    exact ⟨_,hB1,wt Q5 ⟨⟨_,rfl,.refl _⟩,Q0⟩ rfl⟩
   intro v2 hB1
   unfold ref26N25 at hB1
   refine rg ?_
   obtain ⟨hc1,hB1⟩:=chk_some hB1
   refine (Or.inl ⟨hc1,?_⟩)
   exact ⟨_,sj hB1,wt Q5 J1 rfl⟩
  refine xt ?_
  have hB1:=out_ret hB1 hy1
  exact ⟨_,hB1,wt Q4 ⟨⟨_,rfl,.refl _⟩,Q0⟩ rfl⟩
 intro v1 h
 unfold ref26N24 at h
 refine sg ?_
 obtain ⟨x5,hx5,h⟩:=bindS h
 refine ⟨_,rfl,?_⟩
 refine CallOk.call (w_ref26N9 hx5) (LeL.refl _) ?_
 refine wT [(1,.s (mA p_disks)),(2,vi p_server),(3,.b 3 0),(9,vi v1),(12,vb x5.2)] [(3,.box [vi p_c.Id,vi p_c.Ver,.s (mI p_c.Servers)])] Q5 J1 rfl ?_
 refine sq ?_
 refine sg ?_
 refine wT [(1,.s (mA p_disks)),(2,vi p_server),(3,.b 3 0),(9,vi v1),(58,vb x5.2)] [(3,.box [vi p_c.Id,vi p_c.Ver,.s (mI p_c.Servers)])] Q5 J1 rfl ?_
 refine cn 58 (x5.2) rfl h (fun hb h=>?_) fun hb h=>?_
 ·refine sg ?_
  refine wE [(6,.s (mA p_disks)),(7,vi (0))] Q2 ?_
  refine rt ?_
  cases h
  exact (Fz.t (.cons Fz.s (.cons Fz.v .nil)))
 refine sk ?_
 refine Ok.seqj (fun v3=>⟨Cat.tab [(1,.s (mA p_disks)),(2,vi p_server),(3,.b 3 0),(9,vi v1)],[(3,.box [vi p_c.Id,vi p_c.Ver,.s (mI p_c.Servers)])]⟩) (fun v3=>ref26N26 v1 p_c p_disks p_server v3=some r) ?_ ?_
 ·refine sg ?_
  obtain ⟨hc2,h⟩:=chk_some h
  refine (Or.inl ⟨hc2,?_⟩)
  refine wT [(1,.s (mA p_disks)),(2,vi p_server),(3,.b 3 0),(9,vi v1),(13,vi (v1+1))] [(3,.box [vi p_c.Id,vi p_c.Ver,.s (mI p_c.Servers)])] Q5 J1 rfl ?_
  refine bl ?_
  refine Ok.loop (fun (s2:Int)=>⟨Cat.tab [(1,.s (mA p_disks)),(2,vi p_server),(3,.b 3 0),(9,vi v1),(13,vi s2)],[(3,.box [vi p_c.Id,vi p_c.Ver,.s (mI p_c.Servers)])]⟩) (ref26N22 p_c p_disks p_server v1) (s0:=v1+1) h (wt Q5 ⟨⟨_,rfl,.refl _⟩,Q0⟩ rfl) ?_
  intro s2 y2 hB2 hy2
  unfold ref26N22 at hB2
  refine sq ?_
  refine sg ?_
  refine ⟨_,rfl,_,List.length_map _,fun _=>?_⟩
  refine wT [(1,.s (mA p_disks)),(2,vi p_server),(3,.b 3 0),(9,vi v1),(13,vi s2),(66,vb (decide (s2 < (p_c.Servers.length:Int))))] [(3,.box [vi p_c.Id,vi p_c.Ver,.s (mI p_c.Servers)])] Q6 J1 rfl ?_
  refine cn 66 (decide (s2 < (p_c.Servers.length:Int))) rfl hB2 (fun hb hB2=>?_) fun hb hB2=>?_
  ·refine sk ?_
   refine sq ?_
   refine bl ?_
   refine sq ?_
   refine Ok.draw (m:=13) (MD:=⟨[]⟩) (CH:=⟨[]⟩) Tryz.tok Tryz.mixed (by kernel_rfl) ?_
   obtain ⟨x6,hx6,hB2⟩:=bindS hB2
   obtain ⟨x7,hx7,hB2⟩:=bindS hB2
   refine ⟨_,⟨_,rfl,rfl⟩,_,rfl,_,rfl,_,⟨_,rfl,rfl⟩,_,rfl,_,⟨_,idx_nat hx6,_,idx_row hx6,rfl⟩,_,⟨_,rfl,rfl⟩,_,⟨_,.of_pure (w_ref26N9 hx7) (LeL.refl _),rfl⟩,_,rfl,_,rfl,_,rfl,_,rfl,_,rfl,Q0,?_⟩
   refine wT [(1,.s (mA p_disks)),(2,vi p_server),(3,.b 3 0),(9,vi v1),(13,vi s2),(14,.s (mU x7.1)),(15,vb x7.2)] [(3,.box [vi p_c.Id,vi p_c.Ver,.s (mI p_c.Servers)])] Q7 J1 rfl ?_
   refine sg ?_
   refine wT [(1,.s (mA p_disks)),(2,vi p_server),(3,.b 3 0),(9,vi v1),(13,vi s2),(14,.s (mU x7.1)),(80,vb x7.2)] [(3,.box [vi p_c.Id,vi p_c.Ver,.s (mI p_c.Servers)])] Q7 J1 rfl ?_
   refine cn 80 (x7.2) rfl hB2 (fun hb hB2=>?_) fun hb hB2=>?_
   ·refine sg ?_
    obtain ⟨x8,hx8,hB2⟩:=bindS hB2
    refine ⟨_,rfl,_,rfl,?_⟩
    refine CallOk.call (w_ref26_Lay hx8) (LeL.refl _) ?_
    refine wE [(6,.s (mA x8)),(7,vi (0))] Q2 ?_
    refine rt ?_
    have hB2:=out_ret hB2 hy2
    cases hB2
    exact (Fz.t (.cons Fz.s (.cons Fz.v .nil)))
   refine sk ?_
   refine rg ?_
   obtain ⟨hc3,hB2⟩:=chk_some hB2
   refine (Or.inl ⟨hc3,?_⟩)
   exact ⟨_,sj hB2,wt Q5 J1 rfl⟩
  refine xt ?_
  have hB2:=out_ret hB2 hy2
  exact ⟨_,hB2,wt Q4 ⟨⟨_,rfl,.refl _⟩,Q0⟩ rfl⟩
 intro v3 h
 unfold ref26N26 at h
 refine Ok.seqj (fun v4=>⟨Cat.tab [(1,.s (mA p_disks))],[]⟩) (fun v4=>ref26N27 p_disks v4=some r) ?_ ?_
 ·refine sg ?_
  obtain ⟨hc4,h⟩:=chk_some h
  refine (Or.inl ⟨hc4,?_⟩)
  refine wT [(1,.s (mA p_disks)),(2,vi p_server),(3,.b 3 0),(16,vi (v1 - 1))] [(3,.box [vi p_c.Id,vi p_c.Ver,.s (mI p_c.Servers)])] Q4 J1 rfl ?_
  refine bl ?_
  refine Ok.loop (fun (s3:Int)=>⟨Cat.tab [(1,.s (mA p_disks)),(2,vi p_server),(3,.b 3 0),(16,vi s3)],[(3,.box [vi p_c.Id,vi p_c.Ver,.s (mI p_c.Servers)])]⟩) (ref26N23 p_c p_disks p_server) (s0:=v1 - 1) h (wt Q4 ⟨⟨_,rfl,.refl _⟩,Q0⟩ rfl) ?_
  intro s3 y3 hB3 hy3
  unfold ref26N23 at hB3
  refine sq ?_
  refine sg ?_
  refine wT [(1,.s (mA p_disks)),(2,vi p_server),(3,.b 3 0),(16,vi s3),(91,vb (decide (s3≥0)))] [(3,.box [vi p_c.Id,vi p_c.Ver,.s (mI p_c.Servers)])] Q5 J1 rfl ?_
  refine cn 91 (decide (s3≥0)) rfl hB3 (fun hb hB3=>?_) fun hb hB3=>?_
  ·refine sk ?_
   refine sq ?_
   refine bl ?_
   refine sq ?_
   refine Ok.draw (m:=13) (MD:=⟨[]⟩) (CH:=⟨[]⟩) Tryz.tok Tryz.mixed (by kernel_rfl) ?_
   obtain ⟨x9,hx9,hB3⟩:=bindS hB3
   obtain ⟨x10,hx10,hB3⟩:=bindS hB3
   refine ⟨_,⟨_,rfl,rfl⟩,_,rfl,_,rfl,_,⟨_,rfl,rfl⟩,_,rfl,_,⟨_,idx_nat hx9,_,idx_row hx9,rfl⟩,_,⟨_,rfl,rfl⟩,_,⟨_,.of_pure (w_ref26N9 hx10) (LeL.refl _),rfl⟩,_,rfl,_,rfl,_,rfl,_,rfl,_,rfl,Q0,?_⟩
   refine wT [(1,.s (mA p_disks)),(2,vi p_server),(3,.b 3 0),(16,vi s3),(17,.s (mU x10.1)),(18,vb x10.2)] [(3,.box [vi p_c.Id,vi p_c.Ver,.s (mI p_c.Servers)])] Q6 J1 rfl ?_
   refine sg ?_
   refine wT [(1,.s (mA p_disks)),(2,vi p_server),(3,.b 3 0),(16,vi s3),(17,.s (mU x10.1)),(105,vb x10.2)] [(3,.box [vi p_c.Id,vi p_c.Ver,.s (mI p_c.Servers)])] Q6 J1 rfl ?_
   refine cn 105 (x10.2) rfl hB3 (fun hb hB3=>?_) fun hb hB3=>?_
   ·refine sg ?_
    obtain ⟨x11,hx11,hB3⟩:=bindS hB3
    refine ⟨_,rfl,_,rfl,?_⟩
    refine CallOk.call (w_ref26_Lay hx11) (LeL.refl _) ?_
    refine wE [(6,.s (mA x11)),(7,vi (0))] Q2 ?_
    refine rt ?_
    have hB3:=out_ret hB3 hy3
    cases hB3
    exact (Fz.t (.cons Fz.s (.cons Fz.v .nil)))
   refine sk ?_
   refine rg ?_
   obtain ⟨hc5,hB3⟩:=chk_some hB3
   refine (Or.inl ⟨hc5,?_⟩)
   exact ⟨_,sj hB3,wt Q4 J1 rfl⟩
  refine xt ?_
  have hB3:=out_ret hB3 hy3
  exact ⟨_,hB3,wt Q1 Q0 rfl⟩
 intro v4 h
 unfold ref26N27 at h
 refine sg ?_
 refine wE [(6,.s (mA p_disks)),(7,vi (260))] Q2 ?_
 refine rt ?_
 cases h
 exact (Fz.t (.cons Fz.s (.cons Fz.v .nil)))
theorem w_ref26N10 {p_c} {p_disks} {p_data} {p_upto} {r} (h:ref26_Write p_c p_disks p_data p_upto=some r):Pure Tryz.prog 30 [(.a [(vi p_c.Id),(vi p_c.Ver),(.s (mI p_c.Servers))]),(.s (mA p_disks)),(.s (mU p_data)),(vi p_upto)] (.t [(.s (mA r.1)),(vb r.2)]):=by
 refine po Tryz.tok 51 Tryz.func30 (by kernel_rfl) rfl rfl rfl ?_
 unfold ref26_Write at h
 refine wE [(0,.a [vi p_c.Id,vi p_c.Ver,.s (mI p_c.Servers)]),(1,.s (mA p_disks)),(2,.s (mU p_data)),(3,vi p_upto)] Q4 ?_
 refine sg ?_
 refine wT [(1,.s (mA p_disks)),(2,.s (mU p_data)),(3,vi p_upto),(4,.b 4 0)] [(4,.box [vi p_c.Id,vi p_c.Ver,.s (mI p_c.Servers)])] Q4 J1 rfl ?_
 refine sg ?_
 refine wT [(1,.s (mA p_disks)),(2,.s (mU p_data)),(3,vi p_upto),(4,.b 4 0),(10,.s (mA p_disks))] [(4,.box [vi p_c.Id,vi p_c.Ver,.s (mI p_c.Servers)])] Q5 J1 rfl ?_
 refine sq ?_
 refine sg ?_
 refine ⟨_,List.length_map _,fun _=>?_⟩
 refine wT [(1,.s (mA p_disks)),(2,.s (mU p_data)),(3,vi p_upto),(4,.b 4 0),(10,.s (mA p_disks)),(15,vb (decide ((p_data.length:Int) > 64)))] [(4,.box [vi p_c.Id,vi p_c.Ver,.s (mI p_c.Servers)])] Q6 J1 rfl ?_
 refine cn 15 (decide ((p_data.length:Int) > 64)) rfl h (fun hb h=>?_) fun hb h=>?_
 ·refine sg ?_
  refine wE [(8,.s (mA p_disks)),(9,vb false)] Q2 ?_
  refine rt ?_
  cases h
  exact (Fz.t (.cons Fz.s (.cons Fz.v .nil)))
 refine sk ?_
 refine Ok.seqj (fun v1=>⟨Cat.tab [(10,.s (mA v1))],[]⟩) (fun v1=>ref26N35 v1=some r) ?_ ?_
 ·refine sg ?_
  refine wT [(1,.s (mA p_disks)),(2,.s (mU p_data)),(3,vi p_upto),(4,.b 4 0),(10,.s (mA p_disks)),(11,vi (0))] [(4,.box [vi p_c.Id,vi p_c.Ver,.s (mI p_c.Servers)])] Q6 J1 rfl ?_
  refine bl ?_
  refine Ok.loop (fun (s1:(List api_Disk)×Int)=>⟨Cat.tab [(1,.s (mA p_disks)),(2,.s (mU p_data)),(3,vi p_upto),(4,.b 4 0),(10,.s (mA s1.1)),(11,vi s1.2)],[(4,.box [vi p_c.Id,vi p_c.Ver,.s (mI p_c.Servers)])]⟩) (ref26N34 p_c p_upto p_disks p_data) (s0:=(p_disks,0)) h (wt Q6 ⟨⟨_,rfl,.refl _⟩,Q0⟩ rfl) ?_
  intro s1 y1 hB1 hy1
  unfold ref26N34 at hB1
  refine sq ?_
  refine sg ?_
  refine ⟨_,rfl,_,List.length_map _,fun _=>?_⟩
  refine cn 21 (decide (s1.2 < (p_c.Servers.length:Int))) rfl hB1 (fun hb hB1=>?_) fun hb hB1=>?_
  ·refine sk ?_
   refine sq ?_
   refine bl ?_
   refine sq ?_
   obtain ⟨v2,hv2,hB1⟩:=bindS hB1
   refine Ok.seqw ⟨Cat.tab [(1,.s (mA p_disks)),(2,.s (mU p_data)),(3,vi p_upto),(4,.b 4 0),(10,.s (mA s1.1)),(11,vi s1.2),(37,vb v2)],[(4,.box [vi p_c.Id,vi p_c.Ver,.s (mI p_c.Servers)])]⟩ ?_ ?_
   ·refine rg ?_
    obtain ⟨c1,hg1,hv2⟩:=bindS hv2
    refine Br.itf hg1 (fun hb hg1=>?_) fun hb hg1=>?_
    ·cases hg1
     cases hv2
     exact wt Q7 J1 rfl
    obtain ⟨x1,hx1,hg1⟩:=bindS hg1
    obtain ⟨x2,hx2,hg1⟩:=bindS hg1
    refine ⟨_,rfl,_,idx_nat hx1,_,idx_row hx1,_,rfl,_,idx_nat hx2,_,idx_row hx2,_,rfl,?_⟩
    cases hg1
    cases hv2
    exact wt Q7 J1 rfl
   refine cn 37 (v2) rfl hB1 (fun hb hB1=>?_) fun hb hB1=>?_
   ·refine sg ?_
    refine wE [(8,.s (mA s1.1)),(9,vb false)] Q2 ?_
    refine rt ?_
    have hB1:=out_ret hB1 hy1
    cases hB1
    exact (Fz.t (.cons Fz.s (.cons Fz.v .nil)))
   refine sk ?_
   refine Ok.draw (m:=11) (MD:=⟨[]⟩) (CH:=⟨[]⟩) Tryz.tok Tryz.mixed (by kernel_rfl) ?_
   obtain ⟨x3,hx3,hB1⟩:=bindS hB1
   obtain ⟨x4,hx4,hB1⟩:=bindS hB1
   refine ⟨_,⟨_,rfl,rfl⟩,_,rfl,_,rfl,_,⟨_,rfl,rfl⟩,_,rfl,_,⟨_,idx_nat hx3,_,idx_row hx3,rfl⟩,_,⟨_,rfl,rfl⟩,_,rfl,_,⟨_,rfl,rfl⟩,_,rfl,_,⟨_,.of_pure (w_ref26_Lay hx4) (LeL.refl _),rfl⟩,Q0,?_⟩
   refine wT [(1,.s (mA p_disks)),(2,.s (mU p_data)),(3,vi p_upto),(4,.b 4 0),(10,.s (mA x4)),(11,vi s1.2)] [(4,.box [vi p_c.Id,vi p_c.Ver,.s (mI p_c.Servers)])] Q6 J1 rfl ?_
   refine rg ?_
   obtain ⟨hc1,hB1⟩:=chk_some hB1
   refine (Or.inl ⟨hc1,?_⟩)
   exact ⟨_,sj hB1,wt Q6 J1 rfl⟩
  refine xt ?_
  have hB1:=out_ret hB1 hy1
  exact ⟨_,hB1,wt Q1 Q0 rfl⟩
 intro v1 h
 unfold ref26N35 at h
 refine sg ?_
 refine wE [(8,.s (mA v1)),(9,vb true)] Q2 ?_
 refine rt ?_
 cases h
 exact (Fz.t (.cons Fz.s (.cons Fz.v .nil)))
theorem w_ref04N3 {p_a} {p_b} {r} (h:ref04_Pages p_a p_b=some r):Pure Tryz.prog 66 [(.s (mB p_a)),(.s (mB p_b))] (vb r):=by
 refine po Tryz.tok 44 Tryz.func66 (by kernel_rfl) rfl rfl rfl ?_
 unfold ref04_Pages at h
 refine wE [(0,.s (mB p_a)),(1,.s (mB p_b))] Q2 ?_
 refine sg ?_
 refine wE [(0,.s (mB p_a)),(1,.s (mB p_b))] Q2 ?_
 refine sq ?_
 refine sg ?_
 refine ⟨_,List.length_map _,fun _=>⟨_,List.length_map _,fun _=>?_⟩⟩
 refine wE [(0,.s (mB p_a)),(1,.s (mB p_b)),(11,vb ((p_a.length:Int) != (p_b.length:Int)))] Q3 ?_
 refine cn 11 ((p_a.length:Int) != (p_b.length:Int)) rfl h (fun hb h=>?_) fun hb h=>?_
 ·refine sg ?_
  refine wE [(4,vb false)] Q1 ?_
  refine rt ?_
  cases h
  exact Fz.v
 refine sk ?_
 refine Ok.seqj (fun v1=>⟨Cat.tab [],[]⟩) (fun v1=>ref04N8 v1=some r) ?_ ?_
 ·refine sg ?_
  refine wE [(0,.s (mB p_a)),(1,.s (mB p_b)),(5,vi (0))] Q3 ?_
  refine bl ?_
  refine Ok.loop (fun (s1:Int)=>⟨Cat.tab [(0,.s (mB p_a)),(1,.s (mB p_b)),(5,vi s1)],[]⟩) (ref04N7 p_a p_b) (s0:=0) h (wt Q3 Q0 rfl) ?_
  intro s1 y1 hB1 hy1
  unfold ref04N7 at hB1
  refine sq ?_
  refine sg ?_
  refine ⟨_,List.length_map _,fun _=>?_⟩
  refine wE [(0,.s (mB p_a)),(1,.s (mB p_b)),(5,vi s1),(15,vb (decide (s1 < (p_a.length:Int))))] Q4 ?_
  refine cn 15 (decide (s1 < (p_a.length:Int))) rfl hB1 (fun hb hB1=>?_) fun hb hB1=>?_
  ·refine sk ?_
   refine sq ?_
   refine bl ?_
   refine sq ?_
   refine Ok.draw (m:=12) (MD:=⟨[]⟩) (CH:=⟨[]⟩) Tryz.tok Tryz.mixed (by kernel_rfl) ?_
   obtain ⟨x1,hx1,hB1⟩:=bindS hB1
   obtain ⟨x2,hx2,hB1⟩:=bindS hB1
   obtain ⟨x3,hx3,hB1⟩:=bindS hB1
   refine ⟨_,rfl,_,rfl,_,⟨_,idx_nat hx1,_,idx_row hx1,rfl⟩,_,rfl,_,⟨_,rfl,rfl⟩,_,rfl,_,rfl,_,⟨_,idx_nat hx2,_,idx_row hx2,rfl⟩,_,rfl,_,⟨_,rfl,rfl⟩,_,⟨_,.of_pure (w_ref04N1 hx3) (LeL.refl _),rfl⟩,_,rfl,Q0,?_⟩
   refine wE [(0,.s (mB p_a)),(1,.s (mB p_b)),(5,vi s1),(6,vb x3)] Q4 ?_
   obtain ⟨v2,hv2,hB1⟩:=bindS hB1
   refine Ok.seqw ⟨Cat.tab [(0,.s (mB p_a)),(1,.s (mB p_b)),(5,vi s1),(43,vb v2)],[]⟩ ?_ ?_
   ·refine Ok.draw (m:=15) (MD:=⟨[]⟩) (CH:=⟨[]⟩) Tryz.tok Tryz.mixed (by kernel_rfl) ?_
    refine ⟨_,rfl,_,rfl,_,rfl,?_⟩
    obtain ⟨c1,hg1,hv2⟩:=bindS hv2
    refine Br.itf hg1 (fun hb hg1=>?_) fun hb hg1=>?_
    ·cases hg1
     refine ⟨_,rfl,?_⟩
     refine ⟨Q0,?_⟩
     cases hv2
     exact wt Q4 Q0 rfl
    obtain ⟨x4,hx4,hg1⟩:=bindS hg1
    obtain ⟨x5,hx5,hg1⟩:=bindS hg1
    refine ⟨_,rfl,_,rfl,_,⟨_,idx_nat hx4,_,idx_row hx4,rfl⟩,_,rfl,_,⟨_,rfl,rfl⟩,_,rfl,_,rfl,_,⟨_,idx_nat hx5,_,idx_row hx5,rfl⟩,_,rfl,_,⟨_,rfl,rfl⟩,_,rfl,?_⟩
    cases hg1
    refine ⟨_,rfl,?_⟩
    refine ⟨Q0,?_⟩
    cases hv2
    exact wt Q4 Q0 rfl
   refine cn 43 (v2) rfl hB1 (fun hb hB1=>?_) fun hb hB1=>?_
   ·refine sg ?_
    refine wE [(4,vb false)] Q1 ?_
    refine rt ?_
    have hB1:=out_ret hB1 hy1
    cases hB1
    exact Fz.v
   refine sk ?_
   refine rg ?_
   obtain ⟨hc1,hB1⟩:=chk_some hB1
   refine (Or.inl ⟨hc1,?_⟩)
   exact ⟨_,sj hB1,wt Q3 Q0 rfl⟩
  refine xt ?_
  have hB1:=out_ret hB1 hy1
  exact ⟨_,hB1,wt Q0 Q0 rfl⟩
 intro v1 h
 unfold ref04N8 at h
 refine sg ?_
 refine wE [(4,vb true)] Q1 ?_
 refine rt ?_
 cases h
 exact Fz.v
theorem w_ref04N5 {p_a} {p_b} {r} (h:ref04_Same p_a p_b=some r):Pure Tryz.prog 42 [(.a [(.s (mB p_a.Synced)),(.s (mB p_a.Loose)),(vb p_a.Down)]),(.a [(.s (mB p_b.Synced)),(.s (mB p_b.Loose)),(vb p_b.Down)])] (vb r):=by
 refine po Tryz.tok 28 Tryz.func42 (by kernel_rfl) rfl rfl rfl ?_
 unfold ref04_Same at h
 refine wE [(0,.a [.s (mB p_a.Synced),.s (mB p_a.Loose),vb p_a.Down]),(1,.a [.s (mB p_b.Synced),.s (mB p_b.Loose),vb p_b.Down])] Q2 ?_
 refine sg ?_
 refine wT [(2,.b 2 0),(3,.b 3 0)] [(2,.box [.s (mB p_a.Synced),.s (mB p_a.Loose),vb p_a.Down]),(3,.box [.s (mB p_b.Synced),.s (mB p_b.Loose),vb p_b.Down])] Q2 J2 rfl ?_
 refine sg ?_
 obtain ⟨x1,hx1,h⟩:=bindS h
 refine ⟨_,rfl,_,rfl,?_⟩
 refine CallOk.call (w_ref04N3 hx1) (LeL.refl _) ?_
 refine wT [(2,.b 2 0),(3,.b 3 0),(5,vb x1)] [(2,.box [.s (mB p_a.Synced),.s (mB p_a.Loose),vb p_a.Down]),(3,.box [.s (mB p_b.Synced),.s (mB p_b.Loose),vb p_b.Down])] Q3 J2 rfl ?_
 refine sg ?_
 obtain ⟨x2,hx2,h⟩:=bindS h
 refine ⟨_,rfl,_,rfl,?_⟩
 refine CallOk.call (w_ref04N3 hx2) (LeL.refl _) ?_
 refine wT [(2,.b 2 0),(3,.b 3 0),(5,vb x1),(6,vb x2)] [(2,.box [.s (mB p_a.Synced),.s (mB p_a.Loose),vb p_a.Down]),(3,.box [.s (mB p_b.Synced),.s (mB p_b.Loose),vb p_b.Down])] Q4 J2 rfl ?_
 obtain ⟨v1,hv1,h⟩:=bindS h
 refine Ok.seqw ⟨Cat.tab [(4,vb v1)],[]⟩ ?_ ?_
 ·refine rg ?_
  obtain ⟨c1,hg1,hv1⟩:=bindS hv1
  refine Br.ite hg1 (fun hb hg1=>?_) fun hb hg1=>?_
  ·cases hg1
   obtain ⟨c2,hg2,hv1⟩:=bindS hv1
   refine Br.ite hg2 (fun hb hg2=>?_) fun hb hg2=>?_
   ·refine ⟨_,rfl,_,rfl,?_⟩
    cases hg2
    cases hv1
    exact wt Q1 Q0 rfl
   cases hg2
   cases hv1
   exact wt Q1 Q0 rfl
  cases hg1
  obtain ⟨c2,hg3,hv1⟩:=bindS hv1
  replace hg3:=iteF hg3
  cases hg3
  cases hv1
  exact wt Q1 Q0 rfl
 refine rt ?_
 cases h
 exact Fz.v
theorem w_ref26N1 {p_a} {p_b} {r} (h:ref26_Disks p_a p_b=some r):Pure Tryz.prog 13 [(.s (mA p_a)),(.s (mA p_b))] (vb r):=by
 refine po Tryz.tok 29 Tryz.func13 (by kernel_rfl) rfl rfl rfl ?_
 unfold ref26_Disks at h
 refine wE [(0,.s (mA p_a)),(1,.s (mA p_b))] Q2 ?_
 refine sg ?_
 refine wE [(0,.s (mA p_a)),(1,.s (mA p_b))] Q2 ?_
 refine sq ?_
 refine sg ?_
 refine ⟨_,List.length_map _,fun _=>⟨_,List.length_map _,fun _=>?_⟩⟩
 refine wE [(0,.s (mA p_a)),(1,.s (mA p_b)),(11,vb ((p_a.length:Int) != (p_b.length:Int)))] Q3 ?_
 refine cn 11 ((p_a.length:Int) != (p_b.length:Int)) rfl h (fun hb h=>?_) fun hb h=>?_
 ·refine sg ?_
  refine wE [(4,vb false)] Q1 ?_
  refine rt ?_
  cases h
  exact Fz.v
 refine sk ?_
 refine Ok.seqj (fun v1=>⟨Cat.tab [],[]⟩) (fun v1=>ref26N6 v1=some r) ?_ ?_
 ·refine sg ?_
  refine wE [(0,.s (mA p_a)),(1,.s (mA p_b)),(5,vi (0))] Q3 ?_
  refine bl ?_
  refine Ok.loop (fun (s1:Int)=>⟨Cat.tab [(0,.s (mA p_a)),(1,.s (mA p_b)),(5,vi s1)],[]⟩) (ref26N5 p_a p_b) (s0:=0) h (wt Q3 Q0 rfl) ?_
  intro s1 y1 hB1 hy1
  unfold ref26N5 at hB1
  refine sq ?_
  refine sg ?_
  refine ⟨_,List.length_map _,fun _=>?_⟩
  refine wE [(0,.s (mA p_a)),(1,.s (mA p_b)),(5,vi s1),(15,vb (decide (s1 < (p_a.length:Int))))] Q4 ?_
  refine cn 15 (decide (s1 < (p_a.length:Int))) rfl hB1 (fun hb hB1=>?_) fun hb hB1=>?_
  ·refine sk ?_
   refine sq ?_
   refine bl ?_
   refine sq ?_
   refine Ok.draw (m:=10) (MD:=⟨[]⟩) (CH:=⟨[]⟩) Tryz.tok Tryz.mixed (by kernel_rfl) ?_
   obtain ⟨x1,hx1,hB1⟩:=bindS hB1
   obtain ⟨x2,hx2,hB1⟩:=bindS hB1
   obtain ⟨x3,hx3,hB1⟩:=bindS hB1
   refine ⟨_,rfl,_,rfl,_,⟨_,idx_nat hx1,_,idx_row hx1,rfl⟩,_,⟨_,rfl,rfl⟩,_,rfl,_,rfl,_,⟨_,idx_nat hx2,_,idx_row hx2,rfl⟩,_,⟨_,rfl,rfl⟩,_,⟨_,.of_pure (w_ref04N5 hx3) (LeL.refl _),rfl⟩,_,rfl,Q0,?_⟩
   refine wE [(0,.s (mA p_a)),(1,.s (mA p_b)),(5,vi s1),(6,vb x3)] Q4 ?_
   refine sg ?_
   refine wE [(0,.s (mA p_a)),(1,.s (mA p_b)),(5,vi s1),(28,vb (!x3))] Q4 ?_
   refine cn 28 (!x3) rfl hB1 (fun hb hB1=>?_) fun hb hB1=>?_
   ·refine sg ?_
    refine wE [(4,vb false)] Q1 ?_
    refine rt ?_
    have hB1:=out_ret hB1 hy1
    cases hB1
    exact Fz.v
   refine sk ?_
   refine rg ?_
   obtain ⟨hc1,hB1⟩:=chk_some hB1
   refine (Or.inl ⟨hc1,?_⟩)
   exact ⟨_,sj hB1,wt Q3 Q0 rfl⟩
  refine xt ?_
  have hB1:=out_ret hB1 hy1
  exact ⟨_,hB1,wt Q0 Q0 rfl⟩
 intro v1 h
 unfold ref26N6 at h
 refine sg ?_
 refine wE [(4,vb true)] Q1 ?_
 refine rt ?_
 cases h
 exact Fz.v
theorem wo_ref26N1 {p_c} {p_disks} {r} (h:ref26N11 p_c p_disks=some r):POwn Tryz.prog 32 [(.a [(vi p_c.Id),(vi p_c.Ver),(.s (mI p_c.Servers))]),(.s (mA p_disks))] 3 1 (mI r):=by
 refine pw Tryz.tok 37 Tryz.func32 (by kernel_rfl) rfl rfl rfl ?_
 unfold ref26N11 at h
 refine wE [(0,.a [vi p_c.Id,vi p_c.Ver,.s (mI p_c.Servers)]),(1,.s (mA p_disks))] Q2 ?_
 refine sg ?_
 refine wT [(1,.s (mA p_disks)),(2,.b 2 0)] [(2,.box [vi p_c.Id,vi p_c.Ver,.s (mI p_c.Servers)])] Q2 J1 rfl ?_
 refine sg ?_
 refine wT [(1,.s (mA p_disks)),(2,.b 2 0),(5,.v (.slice none 0 0))] [(2,.box [vi p_c.Id,vi p_c.Ver,.s (mI p_c.Servers)])] Q3 J1 rfl ?_
 obtain ⟨v1,hv1,h⟩:=bindS h
 refine Ok.seqw ⟨Cat.tab [(5,.o 35)],[(35,.own 3 1 (mI v1))]⟩ ?_ ?_
 ·refine sg ?_
  refine wT [(1,.s (mA p_disks)),(2,.b 2 0),(5,.v (.slice none 0 0)),(6,vi (0))] [(2,.box [vi p_c.Id,vi p_c.Ver,.s (mI p_c.Servers)])] Q4 J1 rfl ?_
  refine bl ?_
  refine Ok.loop (fun (s1:Int×(List Int))=>⟨Cat.tab [(1,.s (mA p_disks)),(2,.b 2 0),(5,.o 35),(6,vi s1.1)],[(2,.box [vi p_c.Id,vi p_c.Ver,.s (mI p_c.Servers)]),(35,.own 3 1 (mI s1.2))]⟩) (ref26N12 p_c p_disks) (s0:=(0,[])) hv1 ((Wk.own0 (t:=5) (id:=35) (E:=3) (K:=1) rfl rfl).trans (wt Q4 ⟨⟨_,rfl,.refl _⟩,⟨_,rfl,.refl _⟩,Q0⟩ rfl)) ?_
  intro s1 y1 hB1 hy1
  unfold ref26N12 at hB1
  refine sq ?_
  refine sg ?_
  refine ⟨_,rfl,_,List.length_map _,fun _=>?_⟩
  refine wT [(1,.s (mA p_disks)),(2,.b 2 0),(5,.o 35),(6,vi s1.1),(13,vb (decide (s1.1 < (p_c.Servers.length:Int))))] [(2,.box [vi p_c.Id,vi p_c.Ver,.s (mI p_c.Servers)]),(35,.own 3 1 (mI s1.2))] Q5 J2 rfl ?_
  refine cn 13 (decide (s1.1 < (p_c.Servers.length:Int))) rfl hB1 (fun hb hB1=>?_) fun hb hB1=>?_
  ·refine sk ?_
   obtain ⟨v2,hv2,hB1⟩:=bindS hB1
   refine Ok.seqw ⟨Cat.tab [(1,.s (mA p_disks)),(2,.b 2 0),(5,.o 35),(6,vi s1.1)],[(2,.box [vi p_c.Id,vi p_c.Ver,.s (mI p_c.Servers)]),(35,.own 3 1 (mI v2))]⟩ ?_ ?_
   ·refine bl ?_
    refine sq ?_
    refine Ok.draw (m:=13) (MD:=⟨[]⟩) (CH:=⟨[]⟩) Tryz.tok Tryz.mixed (by kernel_rfl) ?_
    obtain ⟨x1,hx1,hv2⟩:=bindS hv2
    obtain ⟨x2,hx2,hv2⟩:=bindS hv2
    refine ⟨_,⟨_,rfl,rfl⟩,_,rfl,_,rfl,_,⟨_,rfl,rfl⟩,_,rfl,_,⟨_,idx_nat hx1,_,idx_row hx1,rfl⟩,_,⟨_,rfl,rfl⟩,_,⟨_,.of_pure (w_ref26N9 hx2) (LeL.refl _),rfl⟩,_,rfl,_,rfl,_,rfl,_,rfl,_,rfl,Q0,?_⟩
    refine wT [(1,.s (mA p_disks)),(2,.b 2 0),(5,.o 35),(6,vi s1.1),(8,vb x2.2)] [(2,.box [vi p_c.Id,vi p_c.Ver,.s (mI p_c.Servers)]),(35,.own 3 1 (mI s1.2))] Q5 J2 rfl ?_
    refine sg ?_
    refine wT [(1,.s (mA p_disks)),(2,.b 2 0),(5,.o 35),(6,vi s1.1),(27,vb x2.2)] [(2,.box [vi p_c.Id,vi p_c.Ver,.s (mI p_c.Servers)]),(35,.own 3 1 (mI s1.2))] Q5 J2 rfl ?_
    refine cn 27 (x2.2) rfl hv2 (fun hb hv2=>?_) fun hb hv2=>?_
    ·refine rg ?_
     obtain ⟨x3,hx3,hv2⟩:=bindS hv2
     obtain ⟨hc1,hv2⟩:=chk_some hv2
     refine ⟨_,rfl,_,idx_nat hx3,_,idx_row hx3,_,rfl,Or.inl ⟨rowsLen_map (f:=Go.Cat.encI) (n:=1) (fun _=>rfl) ([x3]),app_b2 (f:=Go.Cat.encI) (l:=s1.2) (l':=[x3]) hc1,_,(List.map_append (f:=Go.Cat.encI) (l₁:=s1.2) (l₂:=[x3])).symm,?_⟩⟩
     cases hv2
     exact wt Q4 J2 rfl
    refine sk ?_
    cases hv2
    exact wt Q4 J2 rfl
   refine rg ?_
   obtain ⟨hc2,hB1⟩:=chk_some hB1
   refine (Or.inl ⟨hc2,?_⟩)
   exact ⟨_,sj hB1,wt Q4 J2 rfl⟩
  refine xt ?_
  have hB1:=out_ret hB1 hy1
  cases hB1
  exact wt Q1 J1 rfl
 refine sg ?_
 refine wT [(4,.o 35)] [(35,.own 3 1 (mI v1))] Q1 J1 rfl ?_
 refine rt ?_
 cases h
 exact (.inr ⟨_,rfl,rfl⟩)
theorem w_ref26N2 {p_c} {p_disks} {r} (h:ref26N11 p_c p_disks=some r):Pure Tryz.prog 32 [(.a [(vi p_c.Id),(vi p_c.Ver),(.s (mI p_c.Servers))]),(.s (mA p_disks))] (.s (mI r)):=(wo_ref26N1 h).pure
theorem w_law26N1 [Off] {p_length} {p_l} {p_who} {p_data} {r} (h:law26N1 p_length p_l p_who p_data=some r):Pure Tryz.prog 4 [(vu p_length),(.s (mE p_l)),(vi p_who),(.s (mU p_data))] (vb r):=by
 refine po Tryz.tok 268 Tryz.func4 (by kernel_rfl) rfl rfl rfl ?_
 unfold law26N1 at h
 refine wE [(0,vu p_length),(1,.s (mE p_l)),(2,vi p_who),(3,.s (mU p_data))] Q4 ?_
 refine sg ?_
 refine wE [(0,vu p_length),(1,.s (mE p_l)),(2,vi p_who),(3,.s (mU p_data))] Q4 ?_
 refine sg ?_
 obtain ⟨x1,hx1,h⟩:=bindS h
 refine CallOk.call (w_law26N4 hx1) (LeL.refl _) ?_
 refine wE [(0,vu p_length),(1,.s (mE p_l)),(2,vi p_who),(3,.s (mU p_data)),(9,vb x1)] Q5 ?_
 refine sq ?_
 obtain ⟨v1,hv1,h⟩:=bindS h
 refine Ok.seqw ⟨Cat.tab [(0,vu p_length),(1,.s (mE p_l)),(2,vi p_who),(3,.s (mU p_data)),(9,vb x1),(53,vb v1)],[]⟩ ?_ ?_
 ·refine rg ?_
  refine ⟨_,List.length_map _,fun _=>?_⟩
  obtain ⟨c1,hg1,hv1⟩:=bindS hv1
  refine Br.itf hg1 (fun hb hg1=>?_) fun hb hg1=>?_
  ·cases hg1
   cases hv1
   exact wt Q6 Q0 rfl
  refine ⟨_,List.length_map _,fun _=>?_⟩
  cases hg1
  cases hv1
  exact wt Q6 Q0 rfl
 refine cn 53 (v1) rfl h (fun hb h=>?_) fun hb h=>?_
 ·refine sg ?_
  refine wE [(8,vb x1)] Q1 ?_
  refine rt ?_
  cases h
  exact Fz.v
 refine sk ?_
 refine sg ?_
 obtain ⟨x2,hx2,h⟩:=bindS h
 refine CallOk.call (w_law26N2 hx2) (LeL.refl _) ?_
 refine ⟨_,rfl,?_⟩
 refine wT [(1,.s (mE p_l)),(2,vi p_who),(3,.s (mU p_data)),(9,vb x1),(10,.b 10 0)] [(10,.box [vi x2.C.Id,vi x2.C.Ver,.s (mI x2.C.Servers),.s (mA x2.Disks),vi x2.Begun,vi x2.Ack,vi x2.Read])] Q5 J1 rfl ?_
 obtain ⟨v2,hv2,h⟩:=bindS h
 refine Ok.seqw ⟨Cat.tab [(2,vi p_who),(3,.s (mU p_data)),(9,vb x1),(10,.b 10 0)],[(10,.box [vi v2.1,vi v2.2.1,.s (mI v2.2.2.1),.s (mA v2.2.2.2.1),vi v2.2.2.2.2.1,vi v2.2.2.2.2.2.1,vi v2.2.2.2.2.2.2])]⟩ ?_ ?_
 ·refine sg ?_
  refine wT [(1,.s (mE p_l)),(2,vi p_who),(3,.s (mU p_data)),(9,vb x1),(10,.b 10 0),(11,vi (0))] [(10,.box [vi x2.C.Id,vi x2.C.Ver,.s (mI x2.C.Servers),.s (mA x2.Disks),vi x2.Begun,vi x2.Ack,vi x2.Read])] Q6 J1 rfl ?_
  refine bl ?_
  refine Ok.loop (fun (s1:Int×Int×Int×(List Int)×(List api_Disk)×Int×Int×Int)=>⟨Cat.tab [(1,.s (mE p_l)),(2,vi p_who),(3,.s (mU p_data)),(9,vb x1),(10,.b 10 0),(11,vi s1.1)],[(10,.box [vi s1.2.1,vi s1.2.2.1,.s (mI s1.2.2.2.1),.s (mA s1.2.2.2.2.1),vi s1.2.2.2.2.2.1,vi s1.2.2.2.2.2.2.1,vi s1.2.2.2.2.2.2.2])]⟩) (law26N2 p_l) (s0:=(0,x2.C.Id,x2.C.Ver,x2.C.Servers,x2.Disks,x2.Begun,x2.Ack,x2.Read)) hv2 (wt Q6 ⟨⟨_,rfl,.refl _⟩,Q0⟩ rfl) ?_
  intro s1 y1 hB1 hy1
  unfold law26N2 at hB1
  refine sq ?_
  refine sg ?_
  refine ⟨_,List.length_map _,fun _=>?_⟩
  refine cn 60 (decide (s1.1 < (p_l.length:Int))) rfl hB1 (fun hb hB1=>?_) fun hb hB1=>?_
  ·refine sk ?_
   refine sq ?_
   refine bl ?_
   refine sq ?_
   refine Ok.draw2 (m:=10) (late:=[8]) (MD:=⟨[]⟩) (CH:=⟨[]⟩) Tryz.tok Tryz.mixed (by kernel_rfl) ?_
   obtain ⟨x3,hx3,hB1⟩:=bindS hB1
   obtain ⟨x4,hx4,hB1⟩:=bindS hB1
   refine ⟨_,⟨_,rfl,rfl⟩,_,rfl,_,rfl,_,⟨_,idx_nat hx3,_,idx_row hx3,rfl⟩,_,⟨_,rfl,rfl⟩,_,⟨_,.of_pure (w_law26_Do hx4) (LeL.refl _),rfl⟩,_,rfl,_,rfl,_,rfl,Q0,?_⟩
   refine ⟨_,rfl,⟨⟨_,rfl,rfl⟩,Q0⟩,?_⟩
   refine wT [(1,.s (mE p_l)),(2,vi p_who),(3,.s (mU p_data)),(9,vb x1),(10,.b 10 0),(11,vi s1.1),(12,.b 12 0)] [(10,.box [vi s1.2.1,vi s1.2.2.1,.s (mI s1.2.2.2.1),.s (mA s1.2.2.2.2.1),vi s1.2.2.2.2.2.1,vi s1.2.2.2.2.2.2.1,vi s1.2.2.2.2.2.2.2]),(12,.box [vi x4.1.C.Id,vi x4.1.C.Ver,.s (mI x4.1.C.Servers),.s (mA x4.1.Disks),vi x4.1.Begun,vi x4.1.Ack,vi x4.1.Read])] Q7 J2 rfl ?_
   refine rg ?_
   refine ⟨_,rfl,_,rfl,?_⟩
   refine rg ?_
   obtain ⟨hc1,hB1⟩:=chk_some hB1
   refine (Or.inl ⟨hc1,?_⟩)
   exact ⟨_,sj hB1,wt Q6 J1 rfl⟩
  refine xt ?_
  have hB1:=out_ret hB1 hy1
  cases hB1
  exact wt Q4 J1 rfl
 refine sg ?_
 obtain ⟨x5,hx5,h⟩:=bindS h
 refine ⟨_,rfl,?_⟩
 refine CallOk.call (w_law26_May hx5) (LeL.refl _) ?_
 refine wT [(2,vi p_who),(3,.s (mU p_data)),(9,vb x1),(10,.b 10 0),(14,vb x5)] [(10,.box [vi v2.1,vi v2.2.1,.s (mI v2.2.2.1),.s (mA v2.2.2.2.1),vi v2.2.2.2.2.1,vi v2.2.2.2.2.2.1,vi v2.2.2.2.2.2.2])] Q5 J1 rfl ?_
 refine sq ?_
 refine sg ?_
 refine wT [(2,vi p_who),(3,.s (mU p_data)),(9,vb x1),(10,.b 10 0),(76,vb (!x5))] [(10,.box [vi v2.1,vi v2.2.1,.s (mI v2.2.2.1),.s (mA v2.2.2.2.1),vi v2.2.2.2.2.1,vi v2.2.2.2.2.2.1,vi v2.2.2.2.2.2.2])] Q5 J1 rfl ?_
 refine cn 76 (!x5) rfl h (fun hb h=>?_) fun hb h=>?_
 ·refine sg ?_
  refine wE [(8,vb false)] Q1 ?_
  refine rt ?_
  cases h
  exact Fz.v
 refine sk ?_
 refine sg ?_
 obtain ⟨x6,hx6,h⟩:=bindS h
 refine ⟨_,rfl,_,rfl,?_⟩
 refine CallOk.call (w_chain_Cut hx6) (LeL.refl _) ?_
 refine ⟨_,rfl,?_⟩
 refine wT [(2,vi p_who),(3,.s (mU p_data)),(9,vb x1),(10,.b 10 0),(15,.b 15 0),(16,.s (mA x6.2.1)),(17,vi x6.2.2)] [(10,.box [vi v2.1,vi v2.2.1,.s (mI v2.2.2.1),.s (mA v2.2.2.2.1),vi v2.2.2.2.2.1,vi v2.2.2.2.2.2.1,vi v2.2.2.2.2.2.2]),(15,.box [vi x6.1.Id,vi x6.1.Ver,.s (mI x6.1.Servers)])] Q7 J2 rfl ?_
 refine sg ?_
 obtain ⟨x7,hx7,h⟩:=bindS h
 refine ⟨_,rfl,_,rfl,?_⟩
 refine CallOk.call (w_ref26_Cut hx7) (LeL.refl _) ?_
 refine ⟨_,rfl,?_⟩
 refine sg ?_
 obtain ⟨x8,hx8,h⟩:=bindS h
 refine ⟨_,rfl,_,rfl,?_⟩
 refine CallOk.call (w_chainN6 hx8) (LeL.refl _) ?_
 refine ⟨_,rfl,?_⟩
 refine wT [(2,vi p_who),(3,.s (mU p_data)),(9,vb x1),(10,.b 10 0),(15,.b 15 0),(16,.s (mA x6.2.1)),(17,vi x6.2.2),(18,.b 18 0),(19,.s (mA x7.2.1)),(20,vi x7.2.2),(21,.b 21 0),(22,.s (mA x8.2.1)),(23,vi x8.2.2)] [(10,.box [vi v2.1,vi v2.2.1,.s (mI v2.2.2.1),.s (mA v2.2.2.2.1),vi v2.2.2.2.2.1,vi v2.2.2.2.2.2.1,vi v2.2.2.2.2.2.2]),(15,.box [vi x6.1.Id,vi x6.1.Ver,.s (mI x6.1.Servers)]),(18,.box [vi x7.1.Id,vi x7.1.Ver,.s (mI x7.1.Servers)]),(21,.box [vi x8.1.Id,vi x8.1.Ver,.s (mI x8.1.Servers)])] ⟨lr,lr,lr,lr,lr,Q8⟩ J4 rfl ?_
 refine sg ?_
 obtain ⟨x9,hx9,h⟩:=bindS h
 refine ⟨_,rfl,_,rfl,?_⟩
 refine CallOk.call (w_ref26N4 hx9) (LeL.refl _) ?_
 refine ⟨_,rfl,?_⟩
 refine sg ?_
 obtain ⟨x10,hx10,h⟩:=bindS h
 refine ⟨_,rfl,_,rfl,?_⟩
 refine CallOk.call (w_chainN7 hx10) (LeL.refl _) ?_
 refine wT [(2,vi p_who),(3,.s (mU p_data)),(9,vb x1),(10,.b 10 0),(15,.b 15 0),(16,.s (mA x6.2.1)),(17,vi x6.2.2),(18,.b 18 0),(19,.s (mA x7.2.1)),(20,vi x7.2.2),(21,.b 21 0),(22,.s (mA x8.2.1)),(23,vi x8.2.2),(24,.b 24 0),(25,.s (mA x9.2.1)),(26,vi x9.2.2),(27,.s (mA x10.1)),(28,vi x10.2)] [(10,.box [vi v2.1,vi v2.2.1,.s (mI v2.2.2.1),.s (mA v2.2.2.2.1),vi v2.2.2.2.2.1,vi v2.2.2.2.2.2.1,vi v2.2.2.2.2.2.2]),(15,.box [vi x6.1.Id,vi x6.1.Ver,.s (mI x6.1.Servers)]),(18,.box [vi x7.1.Id,vi x7.1.Ver,.s (mI x7.1.Servers)]),(21,.box [vi x8.1.Id,vi x8.1.Ver,.s (mI x8.1.Servers)]),(24,.box [vi x9.1.Id,vi x9.1.Ver,.s (mI x9.1.Servers)])] ⟨lr,lr,lr,lr,lr,lr,lr,lr,lr,lr,Q8⟩ ⟨hr,J4⟩ rfl ?_
 refine sg ?_
 obtain ⟨x11,hx11,h⟩:=bindS h
 refine ⟨_,rfl,_,rfl,?_⟩
 refine CallOk.call (w_ref26N5 hx11) (LeL.refl _) ?_
 refine sg ?_
 obtain ⟨x12,hx12,h⟩:=bindS h
 refine ⟨_,rfl,_,rfl,?_⟩
 refine CallOk.call (w_chainN11 hx12) (LeL.refl _) ?_
 refine wT [(2,vi p_who),(3,.s (mU p_data)),(9,vb x1),(10,.b 10 0),(15,.b 15 0),(16,.s (mA x6.2.1)),(17,vi x6.2.2),(18,.b 18 0),(19,.s (mA x7.2.1)),(20,vi x7.2.2),(21,.b 21 0),(22,.s (mA x8.2.1)),(23,vi x8.2.2),(24,.b 24 0),(25,.s (mA x9.2.1)),(26,vi x9.2.2),(27,.s (mA x10.1)),(28,vi x10.2),(29,.s (mA x11.1)),(30,vi x11.2),(31,.s (mA x12.1)),(32,vb x12.2)] [(10,.box [vi v2.1,vi v2.2.1,.s (mI v2.2.2.1),.s (mA v2.2.2.2.1),vi v2.2.2.2.2.1,vi v2.2.2.2.2.2.1,vi v2.2.2.2.2.2.2]),(15,.box [vi x6.1.Id,vi x6.1.Ver,.s (mI x6.1.Servers)]),(18,.box [vi x7.1.Id,vi x7.1.Ver,.s (mI x7.1.Servers)]),(21,.box [vi x8.1.Id,vi x8.1.Ver,.s (mI x8.1.Servers)]),(24,.box [vi x9.1.Id,vi x9.1.Ver,.s (mI x9.1.Servers)])] ⟨lr,lr,lr,lr,lr,lr,lr,lr,lr,lr,lr,lr,lr,lr,Q8⟩ ⟨hr,J4⟩ rfl ?_
 refine sg ?_
 obtain ⟨x13,hx13,h⟩:=bindS h
 refine ⟨_,rfl,_,rfl,?_⟩
 refine CallOk.call (w_ref26N10 hx13) (LeL.refl _) ?_
 refine sg ?_
 obtain ⟨x14,hx14,h⟩:=bindS h
 refine ⟨_,rfl,_,rfl,?_⟩
 refine CallOk.call (w_chainN9 hx14) (LeL.refl _) ?_
 refine wT [(9,vb x1),(10,.b 10 0),(15,.b 15 0),(16,.s (mA x6.2.1)),(17,vi x6.2.2),(18,.b 18 0),(19,.s (mA x7.2.1)),(20,vi x7.2.2),(21,.b 21 0),(22,.s (mA x8.2.1)),(23,vi x8.2.2),(24,.b 24 0),(25,.s (mA x9.2.1)),(26,vi x9.2.2),(27,.s (mA x10.1)),(28,vi x10.2),(29,.s (mA x11.1)),(30,vi x11.2),(31,.s (mA x12.1)),(32,vb x12.2),(33,.s (mA x13.1)),(34,vb x13.2),(35,.s (mU x14.1)),(36,vi x14.2)] [(10,.box [vi v2.1,vi v2.2.1,.s (mI v2.2.2.1),.s (mA v2.2.2.2.1),vi v2.2.2.2.2.1,vi v2.2.2.2.2.2.1,vi v2.2.2.2.2.2.2]),(15,.box [vi x6.1.Id,vi x6.1.Ver,.s (mI x6.1.Servers)]),(18,.box [vi x7.1.Id,vi x7.1.Ver,.s (mI x7.1.Servers)]),(21,.box [vi x8.1.Id,vi x8.1.Ver,.s (mI x8.1.Servers)]),(24,.box [vi x9.1.Id,vi x9.1.Ver,.s (mI x9.1.Servers)])] ⟨lr,lr,lr,lr,lr,lr,lr,lr,lr,lr,lr,lr,lr,lr,lr,lr,Q8⟩ ⟨hr,J4⟩ rfl ?_
 refine sg ?_
 obtain ⟨x15,hx15,h⟩:=bindS h
 refine ⟨_,rfl,_,rfl,?_⟩
 refine CallOk.call (w_ref26N6 hx15) (LeL.refl _) ?_
 obtain ⟨v3,hv3,h⟩:=bindS h
 refine Ok.seqw ⟨Cat.tab [(9,vb x1),(10,.b 10 0),(15,.b 15 0),(16,.s (mA x6.2.1)),(17,vi x6.2.2),(20,vi x7.2.2),(21,.b 21 0),(22,.s (mA x8.2.1)),(23,vi x8.2.2),(24,.b 24 0),(25,.s (mA x9.2.1)),(26,vi x9.2.2),(27,.s (mA x10.1)),(28,vi x10.2),(29,.s (mA x11.1)),(30,vi x11.2),(31,.s (mA x12.1)),(32,vb x12.2),(33,.s (mA x13.1)),(34,vb x13.2),(35,.s (mU x14.1)),(36,vi x14.2),(37,.s (mU x15.1)),(38,vi x15.2),(39,vb v3)],[(10,.box [vi v2.1,vi v2.2.1,.s (mI v2.2.2.1),.s (mA v2.2.2.2.1),vi v2.2.2.2.2.1,vi v2.2.2.2.2.2.1,vi v2.2.2.2.2.2.2]),(15,.box [vi x6.1.Id,vi x6.1.Ver,.s (mI x6.1.Servers)]),(21,.box [vi x8.1.Id,vi x8.1.Ver,.s (mI x8.1.Servers)]),(24,.box [vi x9.1.Id,vi x9.1.Ver,.s (mI x9.1.Servers)])]⟩ ?_ ?_
 ·refine rg ?_
  obtain ⟨x16,hx16,hv3⟩:=bindS hv3
  refine ⟨_,rfl,_,rfl,?_⟩
  refine CallOk.call (w_ref26N8 hx16) (LeL.refl _) ?_
  obtain ⟨c2,hg2,hv3⟩:=bindS hv3
  refine Br.ite hg2 (fun hb hg2=>?_) fun hb hg2=>?_
  ·obtain ⟨x17,hx17,hg2⟩:=bindS hg2
   refine CallOk.call (w_ref26N1 hx17) (LeL.refl _) ?_
   cases hg2
   cases hv3
   exact wt ⟨lr,lr,lr,lr,lr,lr,lr,lr,lr,lr,lr,lr,lr,lr,lr,lr,lr,Q8⟩ J4 rfl
  cases hg2
  cases hv3
  exact wt ⟨lr,lr,lr,lr,lr,lr,lr,lr,lr,lr,lr,lr,lr,lr,lr,lr,lr,Q8⟩ J4 rfl
 obtain ⟨v4,hv4,h⟩:=bindS h
 refine Ok.seqw ⟨Cat.tab [(9,vb x1),(10,.b 10 0),(15,.b 15 0),(16,.s (mA x6.2.1)),(17,vi x6.2.2),(20,vi x7.2.2),(21,.b 21 0),(22,.s (mA x8.2.1)),(23,vi x8.2.2),(26,vi x9.2.2),(27,.s (mA x10.1)),(28,vi x10.2),(29,.s (mA x11.1)),(30,vi x11.2),(31,.s (mA x12.1)),(32,vb x12.2),(33,.s (mA x13.1)),(34,vb x13.2),(35,.s (mU x14.1)),(36,vi x14.2),(37,.s (mU x15.1)),(38,vi x15.2),(39,vb v3),(40,vb v4)],[(10,.box [vi v2.1,vi v2.2.1,.s (mI v2.2.2.1),.s (mA v2.2.2.2.1),vi v2.2.2.2.2.1,vi v2.2.2.2.2.2.1,vi v2.2.2.2.2.2.2]),(15,.box [vi x6.1.Id,vi x6.1.Ver,.s (mI x6.1.Servers)]),(21,.box [vi x8.1.Id,vi x8.1.Ver,.s (mI x8.1.Servers)])]⟩ ?_ ?_
 ·refine rg ?_
  obtain ⟨x18,hx18,hv4⟩:=bindS hv4
  refine ⟨_,rfl,_,rfl,?_⟩
  refine CallOk.call (w_ref26N8 hx18) (LeL.refl _) ?_
  obtain ⟨c3,hg3,hv4⟩:=bindS hv4
  refine Br.ite hg3 (fun hb hg3=>?_) fun hb hg3=>?_
  ·obtain ⟨x19,hx19,hg3⟩:=bindS hg3
   refine CallOk.call (w_ref26N1 hx19) (LeL.refl _) ?_
   cases hg3
   cases hv4
   exact wt ⟨lr,lr,lr,lr,lr,lr,lr,lr,lr,lr,lr,lr,lr,lr,lr,lr,Q8⟩ J3 rfl
  cases hg3
  cases hv4
  exact wt ⟨lr,lr,lr,lr,lr,lr,lr,lr,lr,lr,lr,lr,lr,lr,lr,lr,Q8⟩ J3 rfl
 refine sg ?_
 obtain ⟨x20,hx20,h⟩:=bindS h
 refine CallOk.call (w_ref26N1 hx20) (LeL.refl _) ?_
 refine wT [(9,vb x1),(10,.b 10 0),(15,.b 15 0),(16,.s (mA x6.2.1)),(17,vi x6.2.2),(20,vi x7.2.2),(21,.b 21 0),(22,.s (mA x8.2.1)),(23,vi x8.2.2),(26,vi x9.2.2),(28,vi x10.2),(30,vi x11.2),(31,.s (mA x12.1)),(32,vb x12.2),(33,.s (mA x13.1)),(34,vb x13.2),(35,.s (mU x14.1)),(36,vi x14.2),(37,.s (mU x15.1)),(38,vi x15.2),(39,vb v3),(40,vb v4),(41,vb x20)] [(10,.box [vi v2.1,vi v2.2.1,.s (mI v2.2.2.1),.s (mA v2.2.2.2.1),vi v2.2.2.2.2.1,vi v2.2.2.2.2.2.1,vi v2.2.2.2.2.2.2]),(15,.box [vi x6.1.Id,vi x6.1.Ver,.s (mI x6.1.Servers)]),(21,.box [vi x8.1.Id,vi x8.1.Ver,.s (mI x8.1.Servers)])] ⟨lr,lr,lr,lr,lr,lr,lr,lr,lr,lr,lr,lr,lr,lr,lr,Q8⟩ J3 rfl ?_
 refine sg ?_
 obtain ⟨x21,hx21,h⟩:=bindS h
 refine CallOk.call (w_ref26N1 hx21) (LeL.refl _) ?_
 refine sg ?_
 obtain ⟨x22,hx22,h⟩:=bindS h
 refine CallOk.call (w_ref04N1 hx22) (LeL.refl _) ?_
 refine wT [(9,vb x1),(10,.b 10 0),(15,.b 15 0),(16,.s (mA x6.2.1)),(17,vi x6.2.2),(20,vi x7.2.2),(21,.b 21 0),(22,.s (mA x8.2.1)),(23,vi x8.2.2),(26,vi x9.2.2),(28,vi x10.2),(30,vi x11.2),(32,vb x12.2),(34,vb x13.2),(36,vi x14.2),(38,vi x15.2),(39,vb v3),(40,vb v4),(41,vb x20),(42,vb x21),(43,vb x22)] [(10,.box [vi v2.1,vi v2.2.1,.s (mI v2.2.2.1),.s (mA v2.2.2.2.1),vi v2.2.2.2.2.1,vi v2.2.2.2.2.2.1,vi v2.2.2.2.2.2.2]),(15,.box [vi x6.1.Id,vi x6.1.Ver,.s (mI x6.1.Servers)]),(21,.box [vi x8.1.Id,vi x8.1.Ver,.s (mI x8.1.Servers)])] ⟨lr,lr,lr,lr,lr,lr,lr,lr,lr,lr,lr,lr,lr,Q8⟩ J3 rfl ?_
 refine sq ?_
 refine Ok.draw (m:=12) (MD:=⟨[]⟩) (CH:=⟨[]⟩) Tryz.tok Tryz.mixed (by kernel_rfl) ?_
 obtain ⟨x23,hx23,h⟩:=bindS h
 obtain ⟨x24,hx24,h⟩:=bindS h
 obtain ⟨x25,hx25,h⟩:=bindS h
 refine ⟨_,rfl,_,⟨_,rfl,rfl⟩,_,rfl,_,⟨_,rfl,rfl⟩,_,⟨_,.of_pure (w_chainN3 hx23) (LeL.refl _),rfl⟩,_,rfl,_,⟨_,rfl,rfl⟩,_,rfl,_,⟨_,rfl,rfl⟩,_,⟨_,.of_pure (w_ref26N2 hx24) (LeL.refl _),rfl⟩,_,⟨_,.of_pure (w_ref26N3 hx25) (LeL.refl _),rfl⟩,_,rfl,Q0,?_⟩
 obtain ⟨v5,hv5,h⟩:=bindS h
 refine Ok.seqw ⟨Cat.tab [(8,vb v5)],[]⟩ ?_ ?_
 ·refine rg ?_
  obtain ⟨c4,hg4,hv5⟩:=bindS hv5
  refine Br.ite hg4 (fun hb hg4=>?_) fun hb hg4=>?_
  ·cases hg4
   obtain ⟨c5,hg5,hv5⟩:=bindS hv5
   refine Br.ite hg5 (fun hb hg5=>?_) fun hb hg5=>?_
   ·cases hg5
    obtain ⟨c6,hg6,hv5⟩:=bindS hv5
    refine Br.ite hg6 (fun hb hg6=>?_) fun hb hg6=>?_
    ·cases hg6
     obtain ⟨c7,hg7,hv5⟩:=bindS hv5
     refine Br.ite hg7 (fun hb hg7=>?_) fun hb hg7=>?_
     ·cases hg7
      obtain ⟨c8,hg8,hv5⟩:=bindS hv5
      refine Br.ite hg8 (fun hb hg8=>?_) fun hb hg8=>?_
      ·cases hg8
       obtain ⟨c9,hg9,hv5⟩:=bindS hv5
       refine Br.ite hg9 (fun hb hg9=>?_) fun hb hg9=>?_
       ·cases hg9
        obtain ⟨c10,hg10,hv5⟩:=bindS hv5
        refine Br.ite hg10 (fun hb hg10=>?_) fun hb hg10=>?_
        ·cases hg10
         obtain ⟨c11,hg11,hv5⟩:=bindS hv5
         refine Br.ite hg11 (fun hb hg11=>?_) fun hb hg11=>?_
         ·cases hg11
          obtain ⟨c12,hg12,hv5⟩:=bindS hv5
          refine Br.ite hg12 (fun hb hg12=>?_) fun hb hg12=>?_
          ·cases hg12
           obtain ⟨c13,hg13,hv5⟩:=bindS hv5
           refine Br.ite hg13 (fun hb hg13=>?_) fun hb hg13=>?_
           ·cases hg13
            obtain ⟨c14,hg14,hv5⟩:=bindS hv5
            refine Br.ite hg14 (fun hb hg14=>?_) fun hb hg14=>?_
            ·cases hg14
             obtain ⟨c15,hg15,hv5⟩:=bindS hv5
             refine Br.ite hg15 (fun hb hg15=>?_) fun hb hg15=>?_
             ·obtain ⟨x26,hx26,hg15⟩:=bindS hg15
              refine ⟨_,rfl,_,rfl,?_⟩
              refine CallOk.call (w_chainN10 hx26) (LeL.refl _) ?_
              cases hg15
              obtain ⟨c16,hg16,hv5⟩:=bindS hv5
              refine Br.ite hg16 (fun hb hg16=>?_) fun hb hg16=>?_
              ·obtain ⟨x27,hx27,hg16⟩:=bindS hg16
               refine ⟨_,rfl,?_⟩
               refine CallOk.call (w_chainN10 hx27) (LeL.refl _) ?_
               cases hg16
               obtain ⟨c17,hg17,hv5⟩:=bindS hv5
               refine Br.ite hg17 (fun hb hg17=>?_) fun hb hg17=>?_
               ·obtain ⟨x28,hx28,hg17⟩:=bindS hg17
                refine ⟨_,rfl,?_⟩
                refine CallOk.call (w_chainN10 hx28) (LeL.refl _) ?_
                cases hg17
                cases hv5
                exact wt Q1 Q0 rfl
               cases hg17
               cases hv5
               exact wt Q1 Q0 rfl
              cases hg16
              obtain ⟨c17,hg18,hv5⟩:=bindS hv5
              replace hg18:=iteF hg18
              cases hg18
              cases hv5
              exact wt Q1 Q0 rfl
             cases hg15
             obtain ⟨c16,hg19,hv5⟩:=bindS hv5
             replace hg19:=iteF hg19
             cases hg19
             obtain ⟨c17,hg20,hv5⟩:=bindS hv5
             replace hg20:=iteF hg20
             cases hg20
             cases hv5
             exact wt Q1 Q0 rfl
            cases hg14
            obtain ⟨c15,hg21,hv5⟩:=bindS hv5
            replace hg21:=iteF hg21
            cases hg21
            obtain ⟨c16,hg22,hv5⟩:=bindS hv5
            replace hg22:=iteF hg22
            cases hg22
            obtain ⟨c17,hg23,hv5⟩:=bindS hv5
            replace hg23:=iteF hg23
            cases hg23
            cases hv5
            exact wt Q1 Q0 rfl
           cases hg13
           obtain ⟨c14,hg24,hv5⟩:=bindS hv5
           replace hg24:=iteF hg24
           cases hg24
           obtain ⟨c15,hg25,hv5⟩:=bindS hv5
           replace hg25:=iteF hg25
           cases hg25
           obtain ⟨c16,hg26,hv5⟩:=bindS hv5
           replace hg26:=iteF hg26
           cases hg26
           obtain ⟨c17,hg27,hv5⟩:=bindS hv5
           replace hg27:=iteF hg27
           cases hg27
           cases hv5
           exact wt Q1 Q0 rfl
          cases hg12
          obtain ⟨c13,hg28,hv5⟩:=bindS hv5
          replace hg28:=iteF hg28
          cases hg28
          obtain ⟨c14,hg29,hv5⟩:=bindS hv5
          replace hg29:=iteF hg29
          cases hg29
          obtain ⟨c15,hg30,hv5⟩:=bindS hv5
          replace hg30:=iteF hg30
          cases hg30
          obtain ⟨c16,hg31,hv5⟩:=bindS hv5
          replace hg31:=iteF hg31
          cases hg31
          obtain ⟨c17,hg32,hv5⟩:=bindS hv5
          replace hg32:=iteF hg32
          cases hg32
          cases hv5
          exact wt Q1 Q0 rfl
         cases hg11
         obtain ⟨c12,hg33,hv5⟩:=bindS hv5
         replace hg33:=iteF hg33
         cases hg33
         obtain ⟨c13,hg34,hv5⟩:=bindS hv5
         replace hg34:=iteF hg34
         cases hg34
         obtain ⟨c14,hg35,hv5⟩:=bindS hv5
         replace hg35:=iteF hg35
         cases hg35
         obtain ⟨c15,hg36,hv5⟩:=bindS hv5
         replace hg36:=iteF hg36
         cases hg36
         obtain ⟨c16,hg37,hv5⟩:=bindS hv5
         replace hg37:=iteF hg37
         cases hg37
         obtain ⟨c17,hg38,hv5⟩:=bindS hv5
         replace hg38:=iteF hg38
         cases hg38
         cases hv5
         exact wt Q1 Q0 rfl
        cases hg10
        obtain ⟨c11,hg39,hv5⟩:=bindS hv5
        replace hg39:=iteF hg39
        cases hg39
        obtain ⟨c12,hg40,hv5⟩:=bindS hv5
        replace hg40:=iteF hg40
        cases hg40
        obtain ⟨c13,hg41,hv5⟩:=bindS hv5
        replace hg41:=iteF hg41
        cases hg41
        obtain ⟨c14,hg42,hv5⟩:=bindS hv5
        replace hg42:=iteF hg42
        cases hg42
        obtain ⟨c15,hg43,hv5⟩:=bindS hv5
        replace hg43:=iteF hg43
        cases hg43
        obtain ⟨c16,hg44,hv5⟩:=bindS hv5
        replace hg44:=iteF hg44
        cases hg44
        obtain ⟨c17,hg45,hv5⟩:=bindS hv5
        replace hg45:=iteF hg45
        cases hg45
        cases hv5
        exact wt Q1 Q0 rfl
       cases hg9
       obtain ⟨c10,hg46,hv5⟩:=bindS hv5
       replace hg46:=iteF hg46
       cases hg46
       obtain ⟨c11,hg47,hv5⟩:=bindS hv5
       replace hg47:=iteF hg47
       cases hg47
       obtain ⟨c12,hg48,hv5⟩:=bindS hv5
       replace hg48:=iteF hg48
       cases hg48
       obtain ⟨c13,hg49,hv5⟩:=bindS hv5
       replace hg49:=iteF hg49
       cases hg49
       obtain ⟨c14,hg50,hv5⟩:=bindS hv5
       replace hg50:=iteF hg50
       cases hg50
       obtain ⟨c15,hg51,hv5⟩:=bindS hv5
       replace hg51:=iteF hg51
       cases hg51
       obtain ⟨c16,hg52,hv5⟩:=bindS hv5
       replace hg52:=iteF hg52
       cases hg52
       obtain ⟨c17,hg53,hv5⟩:=bindS hv5
       replace hg53:=iteF hg53
       cases hg53
       cases hv5
       exact wt Q1 Q0 rfl
      cases hg8
      obtain ⟨c9,hg54,hv5⟩:=bindS hv5
      replace hg54:=iteF hg54
      cases hg54
      obtain ⟨c10,hg55,hv5⟩:=bindS hv5
      replace hg55:=iteF hg55
      cases hg55
      obtain ⟨c11,hg56,hv5⟩:=bindS hv5
      replace hg56:=iteF hg56
      cases hg56
      obtain ⟨c12,hg57,hv5⟩:=bindS hv5
      replace hg57:=iteF hg57
      cases hg57
      obtain ⟨c13,hg58,hv5⟩:=bindS hv5
      replace hg58:=iteF hg58
      cases hg58
      obtain ⟨c14,hg59,hv5⟩:=bindS hv5
      replace hg59:=iteF hg59
      cases hg59
      obtain ⟨c15,hg60,hv5⟩:=bindS hv5
      replace hg60:=iteF hg60
      cases hg60
      obtain ⟨c16,hg61,hv5⟩:=bindS hv5
      replace hg61:=iteF hg61
      cases hg61
      obtain ⟨c17,hg62,hv5⟩:=bindS hv5
      replace hg62:=iteF hg62
      cases hg62
      cases hv5
      exact wt Q1 Q0 rfl
     cases hg7
     obtain ⟨c8,hg63,hv5⟩:=bindS hv5
     replace hg63:=iteF hg63
     cases hg63
     obtain ⟨c9,hg64,hv5⟩:=bindS hv5
     replace hg64:=iteF hg64
     cases hg64
     obtain ⟨c10,hg65,hv5⟩:=bindS hv5
     replace hg65:=iteF hg65
     cases hg65
     obtain ⟨c11,hg66,hv5⟩:=bindS hv5
     replace hg66:=iteF hg66
     cases hg66
     obtain ⟨c12,hg67,hv5⟩:=bindS hv5
     replace hg67:=iteF hg67
     cases hg67
     obtain ⟨c13,hg68,hv5⟩:=bindS hv5
     replace hg68:=iteF hg68
     cases hg68
     obtain ⟨c14,hg69,hv5⟩:=bindS hv5
     replace hg69:=iteF hg69
     cases hg69
     obtain ⟨c15,hg70,hv5⟩:=bindS hv5
     replace hg70:=iteF hg70
     cases hg70
     obtain ⟨c16,hg71,hv5⟩:=bindS hv5
     replace hg71:=iteF hg71
     cases hg71
     obtain ⟨c17,hg72,hv5⟩:=bindS hv5
     replace hg72:=iteF hg72
     cases hg72
     cases hv5
     exact wt Q1 Q0 rfl
    cases hg6
    obtain ⟨c7,hg73,hv5⟩:=bindS hv5
    replace hg73:=iteF hg73
    cases hg73
    obtain ⟨c8,hg74,hv5⟩:=bindS hv5
    replace hg74:=iteF hg74
    cases hg74
    obtain ⟨c9,hg75,hv5⟩:=bindS hv5
    replace hg75:=iteF hg75
    cases hg75
    obtain ⟨c10,hg76,hv5⟩:=bindS hv5
    replace hg76:=iteF hg76
    cases hg76
    obtain ⟨c11,hg77,hv5⟩:=bindS hv5
    replace hg77:=iteF hg77
    cases hg77
    obtain ⟨c12,hg78,hv5⟩:=bindS hv5
    replace hg78:=iteF hg78
    cases hg78
    obtain ⟨c13,hg79,hv5⟩:=bindS hv5
    replace hg79:=iteF hg79
    cases hg79
    obtain ⟨c14,hg80,hv5⟩:=bindS hv5
    replace hg80:=iteF hg80
    cases hg80
    obtain ⟨c15,hg81,hv5⟩:=bindS hv5
    replace hg81:=iteF hg81
    cases hg81
    obtain ⟨c16,hg82,hv5⟩:=bindS hv5
    replace hg82:=iteF hg82
    cases hg82
    obtain ⟨c17,hg83,hv5⟩:=bindS hv5
    replace hg83:=iteF hg83
    cases hg83
    cases hv5
    exact wt Q1 Q0 rfl
   cases hg5
   obtain ⟨c6,hg84,hv5⟩:=bindS hv5
   replace hg84:=iteF hg84
   cases hg84
   obtain ⟨c7,hg85,hv5⟩:=bindS hv5
   replace hg85:=iteF hg85
   cases hg85
   obtain ⟨c8,hg86,hv5⟩:=bindS hv5
   replace hg86:=iteF hg86
   cases hg86
   obtain ⟨c9,hg87,hv5⟩:=bindS hv5
   replace hg87:=iteF hg87
   cases hg87
   obtain ⟨c10,hg88,hv5⟩:=bindS hv5
   replace hg88:=iteF hg88
   cases hg88
   obtain ⟨c11,hg89,hv5⟩:=bindS hv5
   replace hg89:=iteF hg89
   cases hg89
   obtain ⟨c12,hg90,hv5⟩:=bindS hv5
   replace hg90:=iteF hg90
   cases hg90
   obtain ⟨c13,hg91,hv5⟩:=bindS hv5
   replace hg91:=iteF hg91
   cases hg91
   obtain ⟨c14,hg92,hv5⟩:=bindS hv5
   replace hg92:=iteF hg92
   cases hg92
   obtain ⟨c15,hg93,hv5⟩:=bindS hv5
   replace hg93:=iteF hg93
   cases hg93
   obtain ⟨c16,hg94,hv5⟩:=bindS hv5
   replace hg94:=iteF hg94
   cases hg94
   obtain ⟨c17,hg95,hv5⟩:=bindS hv5
   replace hg95:=iteF hg95
   cases hg95
   cases hv5
   exact wt Q1 Q0 rfl
  cases hg4
  obtain ⟨c5,hg96,hv5⟩:=bindS hv5
  replace hg96:=iteF hg96
  cases hg96
  obtain ⟨c6,hg97,hv5⟩:=bindS hv5
  replace hg97:=iteF hg97
  cases hg97
  obtain ⟨c7,hg98,hv5⟩:=bindS hv5
  replace hg98:=iteF hg98
  cases hg98
  obtain ⟨c8,hg99,hv5⟩:=bindS hv5
  replace hg99:=iteF hg99
  cases hg99
  obtain ⟨c9,hg100,hv5⟩:=bindS hv5
  replace hg100:=iteF hg100
  cases hg100
  obtain ⟨c10,hg101,hv5⟩:=bindS hv5
  replace hg101:=iteF hg101
  cases hg101
  obtain ⟨c11,hg102,hv5⟩:=bindS hv5
  replace hg102:=iteF hg102
  cases hg102
  obtain ⟨c12,hg103,hv5⟩:=bindS hv5
  replace hg103:=iteF hg103
  cases hg103
  obtain ⟨c13,hg104,hv5⟩:=bindS hv5
  replace hg104:=iteF hg104
  cases hg104
  obtain ⟨c14,hg105,hv5⟩:=bindS hv5
  replace hg105:=iteF hg105
  cases hg105
  obtain ⟨c15,hg106,hv5⟩:=bindS hv5
  replace hg106:=iteF hg106
  cases hg106
  obtain ⟨c16,hg107,hv5⟩:=bindS hv5
  replace hg107:=iteF hg107
  cases hg107
  obtain ⟨c17,hg108,hv5⟩:=bindS hv5
  replace hg108:=iteF hg108
  cases hg108
  cases hv5
  exact wt Q1 Q0 rfl
 refine rt ?_
 cases h
 exact Fz.v
end Go.Proofs
