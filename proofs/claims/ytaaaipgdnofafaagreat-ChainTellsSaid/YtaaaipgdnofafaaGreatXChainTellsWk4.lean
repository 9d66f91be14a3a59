/- The walks of this seat beside the plain programs, part 4. No condition. -/
import Derived.Test.YtaaaipgdnofafaaGreatXChainTellsEn
import Derived.Test.YtaaaipgdnofafaaGreatXChainTellsWk0
import Derived.Test.YtaaaipgdnofafaaGreatXChainTellsWk1
import Derived.Test.YtaaaipgdnofafaaGreatXChainTellsWk2
import Derived.Test.YtaaaipgdnofafaaGreatXChainTellsWk3
namespace Go.Proofs
set_option linter.all false
open Go Go.Cat
variable [M:Mono]
set_option maxRecDepth 100000
theorem wo_ref01N3 {p_s} {r} (h:ref01_Str p_s=some r):POwn Tryz.prog 110 [(vs p_s)] 5 1 (mU r):=by
 refine pw Tryz.tok 21 Tryz.func110 (by kernel_rfl) rfl rfl rfl ?_
 unfold ref01_Str at h
 refine wE [(0,vs p_s)] Q1 ?_
 refine sg ?_
 refine wE [(0,vs p_s)] Q1 ?_
 refine sg ?_
 obtain ⟨x1,hx1,h⟩:=bindS h
 refine ⟨_,str_size _,?_⟩
 refine CallOk.own (D:=7) (wo_ref01N1 hx1) (LeL.refl _) rfl ?_
 refine wT [(0,vs p_s),(3,.o 7)] [(7,.own 5 1 (mU x1))] Q2 J1 rfl ?_
 obtain ⟨v1,hv1,h⟩:=bindS h
 refine Ok.seqw ⟨Cat.tab [(3,.o 7)],[(7,.own 5 1 (mU v1))]⟩ ?_ ?_
 ·refine sg ?_
  refine wT [(0,vs p_s),(3,.o 7),(4,vi (0))] [(7,.own 5 1 (mU x1))] Q3 J1 rfl ?_
  refine bl ?_
  refine Ok.loop (fun (s1:Int×(List UInt8))=>⟨Cat.tab [(0,vs p_s),(3,.o 7),(4,vi s1.1)],[(7,.own 5 1 (mU s1.2))]⟩) (ref01N14 p_s) (s0:=(0,x1)) hv1 (wt Q3 ⟨⟨_,rfl,.refl _⟩,Q0⟩ rfl) ?_
  intro s1 y1 hB1 hy1
  unfold ref01N14 at hB1
  refine sq ?_
  refine sg ?_
  refine ⟨_,str_size _,?_⟩
  refine wT [(0,vs p_s),(3,.o 7),(4,vi s1.1),(11,vb (decide (s1.1 < (p_s.length:Int))))] [(7,.own 5 1 (mU s1.2))] Q4 J1 rfl ?_
  refine cn 11 (decide (s1.1 < (p_s.length:Int))) rfl hB1 (fun hb hB1=>?_) fun hb hB1=>?_
  ·refine sk ?_
   refine sq ?_
   refine bl ?_
   refine rg ?_
   obtain ⟨x2,hx2,hB1⟩:=bindS hB1
   obtain ⟨hc1,hB1⟩:=chk_some hB1
   refine ⟨_,idx_nat hx2,_,idx_get hx2,Or.inl ⟨rowsLen_map (f:=cU8) (n:=1) (fun _=>rfl) ([x2]),app_b2 (f:=cU8) (l:=s1.2) (l':=[x2]) hc1,_,(List.map_append (f:=cU8) (l₁:=s1.2) (l₂:=[x2])).symm,?_⟩⟩
   refine wT [(0,vs p_s),(3,.o 7),(4,vi s1.1)] [(7,.own 5 1 (mU (s1.2++[x2])))] Q3 J1 rfl ?_
   refine rg ?_
   obtain ⟨hc2,hB1⟩:=chk_some hB1
   refine (Or.inl ⟨hc2,?_⟩)
   exact ⟨_,sj hB1,wt Q3 J1 rfl⟩
  refine xt ?_
  have hB1:=out_ret hB1 hy1
  cases hB1
  exact wt Q1 J1 rfl
 refine sg ?_
 refine wT [(2,.o 7)] [(7,.own 5 1 (mU v1))] Q1 J1 rfl ?_
 refine rt ?_
 cases h
 exact (.inr ⟨_,rfl,rfl⟩)
theorem w_ref01_Str {p_s} {r} (h:ref01_Str p_s=some r):Pure Tryz.prog 110 [(vs p_s)] (.s (mU r)):=(wo_ref01N3 h).pure
theorem wo_ref01N2 {p_l} {r} (h:ref01_Ints p_l=some r):POwn Tryz.prog 111 [(.s (mI p_l))] 5 1 (mU r):=by
 refine pw Tryz.tok 22 Tryz.func111 (by kernel_rfl) rfl rfl rfl ?_
 unfold ref01_Ints at h
 refine wE [(0,.s (mI p_l))] Q1 ?_
 refine sg ?_
 refine wE [(0,.s (mI p_l))] Q1 ?_
 refine sg ?_
 obtain ⟨x1,hx1,h⟩:=bindS h
 refine ⟨_,List.length_map _,fun _=>?_⟩
 refine CallOk.own (D:=7) (wo_ref01N1 hx1) (LeL.refl _) rfl ?_
 refine wT [(0,.s (mI p_l)),(3,.o 7)] [(7,.own 5 1 (mU x1))] Q2 J1 rfl ?_
 obtain ⟨v1,hv1,h⟩:=bindS h
 refine Ok.seqw ⟨Cat.tab [(3,.o 7)],[(7,.own 5 1 (mU v1))]⟩ ?_ ?_
 ·refine sg ?_
  refine wT [(0,.s (mI p_l)),(3,.o 7),(4,vi (0))] [(7,.own 5 1 (mU x1))] Q3 J1 rfl ?_
  refine bl ?_
  refine Ok.loop (fun (s1:Int×(List UInt8))=>⟨Cat.tab [(0,.s (mI p_l)),(3,.o 7),(4,vi s1.1)],[(7,.own 5 1 (mU s1.2))]⟩) (ref01N3 p_l) (s0:=(0,x1)) hv1 (wt Q3 ⟨⟨_,rfl,.refl _⟩,Q0⟩ rfl) ?_
  intro s1 y1 hB1 hy1
  unfold ref01N3 at hB1
  refine sq ?_
  refine sg ?_
  refine ⟨_,List.length_map _,fun _=>?_⟩
  refine wT [(0,.s (mI p_l)),(3,.o 7),(4,vi s1.1),(11,vb (decide (s1.1 < (p_l.length:Int))))] [(7,.own 5 1 (mU s1.2))] Q4 J1 rfl ?_
  refine cn 11 (decide (s1.1 < (p_l.length:Int))) rfl hB1 (fun hb hB1=>?_) fun hb hB1=>?_
  ·refine sk ?_
   refine sq ?_
   refine bl ?_
   refine rg ?_
   obtain ⟨x2,hx2,hB1⟩:=bindS hB1
   obtain ⟨x3,hx3,hB1⟩:=bindS hB1
   refine ⟨_,idx_nat hx2,_,idx_row hx2,_,rfl,?_⟩
   refine CallOk.call (w_ref01_Int hx3) (LeL.refl _) ?_
   obtain ⟨hc1,hB1⟩:=chk_some hB1
   refine ⟨rowsLen_map (f:=cU8) (n:=1) (fun _=>rfl) x3,app_b2 (f:=cU8) (l:=s1.2) (l':=x3) hc1,_,(List.map_append (f:=cU8) (l₁:=s1.2) (l₂:=x3)).symm,?_⟩
   refine wT [(0,.s (mI p_l)),(3,.o 7),(4,vi s1.1)] [(7,.own 5 1 (mU (s1.2++x3)))] Q3 J1 rfl ?_
   refine rg ?_
   obtain ⟨hc2,hB1⟩:=chk_some hB1
   refine (Or.inl ⟨hc2,?_⟩)
   exact ⟨_,sj hB1,wt Q3 J1 rfl⟩
  refine xt ?_
  have hB1:=out_ret hB1 hy1
  cases hB1
  exact wt Q1 J1 rfl
 refine sg ?_
 refine wT [(2,.o 7)] [(7,.own 5 1 (mU v1))] Q1 J1 rfl ?_
 refine rt ?_
 cases h
 exact (.inr ⟨_,rfl,rfl⟩)
theorem w_ref01N1 {p_l} {r} (h:ref01_Ints p_l=some r):Pure Tryz.prog 111 [(.s (mI p_l))] (.s (mU r)):=(wo_ref01N2 h).pure
theorem wo_ref25N1 {p_c} {r} (h:ref25_Page p_c=some r):POwn Tryz.prog 78 [(.a [(vi p_c.Id),(vi p_c.Ver),(.s (mU p_c.Data)),(.s (mI p_c.Sums))])] 5 1 (mU r):=by
 refine pw Tryz.tok 45 Tryz.func78 (by kernel_rfl) rfl rfl rfl ?_
 unfold ref25_Page at h
 refine wE [(0,.a [vi p_c.Id,vi p_c.Ver,.s (mU p_c.Data),.s (mI p_c.Sums)])] Q1 ?_
 refine sg ?_
 refine wT [(1,.b 1 0)] [(1,.box [vi p_c.Id,vi p_c.Ver,.s (mU p_c.Data),.s (mI p_c.Sums)])] Q1 J1 rfl ?_
 refine sg ?_
 obtain ⟨x1,hx1,h⟩:=bindS h
 refine Or.inr ⟨_,rfl,?_⟩
 refine CallOk.call (w_ref01_Int hx1) (LeL.refl _) ?_
 obtain ⟨hc1,h⟩:=chk_some h
 refine ⟨rowsLen_map (f:=cU8) (n:=1) (fun _=>rfl) x1,app_b2 (f:=cU8) (l:=([]:List UInt8)) (l':=x1) hc1,_,(List.map_append (f:=cU8) (l₁:=([]:List UInt8)) (l₂:=x1)).symm,?_⟩
 refine wT [(1,.b 1 0),(3,.o 5)] [(1,.box [vi p_c.Id,vi p_c.Ver,.s (mU p_c.Data),.s (mI p_c.Sums)]),(5,.own 5 1 (mU (([]:List UInt8)++x1)))] Q2 J2 rfl ?_
 refine sg ?_
 obtain ⟨x2,hx2,h⟩:=bindS h
 refine ⟨_,rfl,?_⟩
 refine CallOk.call (w_ref01_Int hx2) (LeL.refl _) ?_
 obtain ⟨hc2,h⟩:=chk_some h
 refine ⟨rowsLen_map (f:=cU8) (n:=1) (fun _=>rfl) x2,app_b2 (f:=cU8) (l:=([]:List UInt8)++x1) (l':=x2) hc2,_,(List.map_append (f:=cU8) (l₁:=([]:List UInt8)++x1) (l₂:=x2)).symm,?_⟩
 refine wT [(1,.b 1 0),(3,.o 5)] [(1,.box [vi p_c.Id,vi p_c.Ver,.s (mU p_c.Data),.s (mI p_c.Sums)]),(5,.own 5 1 (mU ((([]:List UInt8)++x1)++x2)))] Q2 J2 rfl ?_
 refine sg ?_
 obtain ⟨x3,hx3,h⟩:=bindS h
 refine ⟨_,rfl,_,rfl,?_⟩
 refine CallOk.call (w_ref01_Str hx3) (LeL.refl _) ?_
 obtain ⟨hc3,h⟩:=chk_some h
 refine ⟨rowsLen_map (f:=cU8) (n:=1) (fun _=>rfl) x3,app_b2 (f:=cU8) (l:=(([]:List UInt8)++x1)++x2) (l':=x3) hc3,_,(List.map_append (f:=cU8) (l₁:=(([]:List UInt8)++x1)++x2) (l₂:=x3)).symm,?_⟩
 refine wT [(1,.b 1 0),(3,.o 5)] [(1,.box [vi p_c.Id,vi p_c.Ver,.s (mU p_c.Data),.s (mI p_c.Sums)]),(5,.own 5 1 (mU (((([]:List UInt8)++x1)++x2)++x3)))] Q2 J2 rfl ?_
 refine sg ?_
 obtain ⟨x4,hx4,h⟩:=bindS h
 refine ⟨_,rfl,?_⟩
 refine CallOk.call (w_ref01N1 hx4) (LeL.refl _) ?_
 obtain ⟨hc4,h⟩:=chk_some h
 refine ⟨rowsLen_map (f:=cU8) (n:=1) (fun _=>rfl) x4,app_b2 (f:=cU8) (l:=((([]:List UInt8)++x1)++x2)++x3) (l':=x4) hc4,_,(List.map_append (f:=cU8) (l₁:=((([]:List UInt8)++x1)++x2)++x3) (l₂:=x4)).symm,?_⟩
 refine wT [(3,.o 5)] [(5,.own 5 1 (mU ((((([]:List UInt8)++x1)++x2)++x3)++x4)))] Q1 J1 rfl ?_
 refine sg ?_
 obtain ⟨x5,hx5,h⟩:=bindS h
 refine CallOk.borrow (w_ref02_Of hx5) (.cons (Fz.o rfl) (.nil)) rfl ?_
 refine wT [(3,.o 5),(4,vi x5)] [(5,.own 5 1 (mU ((((([]:List UInt8)++x1)++x2)++x3)++x4)))] Q2 J1 rfl ?_
 refine sg ?_
 obtain ⟨hc5,h⟩:=chk_some h
 refine ⟨(by decide),_,rfl,_,toU8_wrap _,(by decide),_,rfl,(by decide),_,rfl,_,toU8_wrap _,(by decide),_,rfl,(by decide),_,rfl,_,toU8_wrap _,(by decide),_,rfl,_,toU8_wrap _,Or.inl ⟨rowsLen_map (f:=cU8) (n:=1) (fun _=>rfl) ([toU8 (Int.tmod x5 (256)),toU8 (Int.tmod (quoK .i64 x5 (256)) (256)),toU8 (Int.tmod (quoK .i64 x5 (65536)) (256)),toU8 (quoK .i64 x5 (16777216))]),app_b2 (f:=cU8) (l:=(((([]:List UInt8)++x1)++x2)++x3)++x4) (l':=[toU8 (Int.tmod x5 (256)),toU8 (Int.tmod (quoK .i64 x5 (256)) (256)),toU8 (Int.tmod (quoK .i64 x5 (65536)) (256)),toU8 (quoK .i64 x5 (16777216))]) hc5,_,(List.map_append (f:=cU8) (l₁:=(((([]:List UInt8)++x1)++x2)++x3)++x4) (l₂:=[toU8 (Int.tmod x5 (256)),toU8 (Int.tmod (quoK .i64 x5 (256)) (256)),toU8 (Int.tmod (quoK .i64 x5 (65536)) (256)),toU8 (quoK .i64 x5 (16777216))])).symm,?_⟩⟩
 refine rt ?_
 cases h
 exact (.inr ⟨_,rfl,rfl⟩)
theorem w_ref25N1 {p_c} {r} (h:ref25_Page p_c=some r):Pure Tryz.prog 78 [(.a [(vi p_c.Id),(vi p_c.Ver),(.s (mU p_c.Data)),(.s (mI p_c.Sums))])] (.s (mU r)):=(wo_ref25N1 h).pure
theorem w_ref02N2 {p_a} {p_b} {r} (h:ref02_Bytes p_a p_b=some r):Pure Tryz.prog 77 [(.s (mU p_a)),(.s (mU p_b))] (vb r):=by
 refine po Tryz.tok 26 Tryz.func77 (by kernel_rfl) rfl rfl rfl ?_
 unfold ref02_Bytes at h
 refine wE [(0,.s (mU p_a)),(1,.s (mU p_b))] Q2 ?_
 refine sg ?_
 refine wE [(0,.s (mU p_a)),(1,.s (mU p_b))] Q2 ?_
 refine sq ?_
 refine sg ?_
 refine ⟨_,List.length_map _,fun _=>⟨_,List.length_map _,fun _=>?_⟩⟩
 refine wE [(0,.s (mU p_a)),(1,.s (mU p_b)),(10,vb ((p_a.length:Int) != (p_b.length:Int)))] Q3 ?_
 refine cn 10 ((p_a.length:Int) != (p_b.length:Int)) rfl h (fun hb h=>?_) fun hb h=>?_
 ·refine sg ?_
  refine wE [(4,vb false)] Q1 ?_
  refine rt ?_
  cases h
  exact Fz.v
 refine sk ?_
 refine Ok.seqj (fun v1=>⟨Cat.tab [],[]⟩) (fun v1=>ref02N5 v1=some r) ?_ ?_
 ·refine sg ?_
  refine wE [(0,.s (mU p_a)),(1,.s (mU p_b)),(5,vi (0))] Q3 ?_
  refine bl ?_
  refine Ok.loop (fun (s1:Int)=>⟨Cat.tab [(0,.s (mU p_a)),(1,.s (mU p_b)),(5,vi s1)],[]⟩) (ref02N4 p_a p_b) (s0:=0) h (wt Q3 Q0 rfl) ?_
  intro s1 y1 hB1 hy1
  unfold ref02N4 at hB1
  refine sq ?_
  refine sg ?_
  refine ⟨_,List.length_map _,fun _=>?_⟩
  refine wE [(0,.s (mU p_a)),(1,.s (mU p_b)),(5,vi s1),(14,vb (decide (s1 < (p_a.length:Int))))] Q4 ?_
  refine cn 14 (decide (s1 < (p_a.length:Int))) rfl hB1 (fun hb hB1=>?_) fun hb hB1=>?_
  ·refine sk ?_
   refine sq ?_
   refine bl ?_
   refine sq ?_
   refine Ok.draw (m:=9) (MD:=⟨[]⟩) (CH:=⟨[]⟩) Tryz.tok Tryz.mixed (by kernel_rfl) ?_
   obtain ⟨x1,hx1,hB1⟩:=bindS hB1
   obtain ⟨x2,hx2,hB1⟩:=bindS hB1
   refine ⟨_,rfl,_,rfl,_,⟨_,idx_nat hx1,_,idx_row hx1,rfl⟩,_,⟨_,rfl,rfl⟩,_,rfl,_,rfl,_,⟨_,idx_nat hx2,_,idx_row hx2,rfl⟩,_,⟨_,rfl,rfl⟩,_,rfl,Q0,?_⟩
   refine wE [(0,.s (mU p_a)),(1,.s (mU p_b)),(5,vi s1),(25,vb ((x1.toNat:Int) != (x2.toNat:Int)))] Q4 ?_
   refine cn 25 ((x1.toNat:Int) != (x2.toNat:Int)) rfl hB1 (fun hb hB1=>?_) fun hb hB1=>?_
   ·refine sg ?_
    refine wE [(4,vb false)] Q1 ?_
    refine rt ?_
    have hB1:=out_ret hB1 hy1
    cases hB1
    exact Fz.v
   refine sk ?_
   refine rg ?_
   obtain ⟨hc1,hB1⟩:=chk_some hB1
   refine (Or.inl ⟨hc1,?_⟩)
   exact ⟨_,sj hB1,wt Q3 Q0 rfl⟩
  refine xt ?_
  have hB1:=out_ret hB1 hy1
  exact ⟨_,hB1,wt Q0 Q0 rfl⟩
 intro v1 h
 unfold ref02N5 at h
 refine sg ?_
 refine wE [(4,vb true)] Q1 ?_
 refine rt ?_
 cases h
 exact Fz.v
theorem w_ref25_Get {p_d} {p_id} {r} (h:ref25_Get p_d p_id=some r):Pure Tryz.prog 49 [(.a [(.s (mB p_d.Synced)),(.s (mB p_d.Loose)),(vb p_d.Down)]),(vi p_id)] (.t [(.a [(vi r.1.Id),(vi r.1.Ver),(.s (mU r.1.Data)),(.s (mI r.1.Sums))]),(vi r.2)]):=by
 refine po Tryz.tok 66 Tryz.func49 (by kernel_rfl) rfl rfl rfl ?_
 unfold ref25_Get at h
 refine wE [(0,.a [.s (mB p_d.Synced),.s (mB p_d.Loose),vb p_d.Down]),(1,vi p_id)] Q2 ?_
 refine sg ?_
 refine wT [(1,vi p_id),(2,.b 2 0),(4,.b 4 0)] [(2,.box [.s (mB p_d.Synced),.s (mB p_d.Loose),vb p_d.Down]),(4,.box [vi (0),vi (0),.v (.slice none 0 0),.v (.slice none 0 0)])] Q3 J2 rfl ?_
 refine sq ?_
 obtain ⟨v1,hv1,h⟩:=bindS h
 refine Ok.seqw ⟨Cat.tab [(1,vi p_id),(2,.b 2 0),(4,.b 4 0),(15,vb v1)],[(2,.box [.s (mB p_d.Synced),.s (mB p_d.Loose),vb p_d.Down]),(4,.box [vi (0),vi (0),.v (.slice none 0 0),.v (.slice none 0 0)])]⟩ ?_ ?_
 ·refine rg ?_
  obtain ⟨c1,hg1,hv1⟩:=bindS hv1
  refine Br.itf hg1 (fun hb hg1=>?_) fun hb hg1=>?_
  ·cases hg1
   cases hv1
   exact wt Q4 J2 rfl
  cases hg1
  cases hv1
  exact wt Q4 J2 rfl
 refine cn 15 (v1) rfl h (fun hb h=>?_) fun hb h=>?_
 ·refine sg ?_
  refine ⟨_,rfl,?_⟩
  refine wT [(4,.b 4 0),(5,vi (1))] [(4,.box [vi (0),vi (0),.v (.slice none 0 0),.v (.slice none 0 0)])] Q2 J1 rfl ?_
  refine rt ?_
  cases h
  exact ⟨_,rfl,(Fz.t (.cons (Fz.a (.cons Fz.v (.cons Fz.v (.cons Fz.nil (.cons Fz.nil .nil))))) (.cons Fz.v .nil)))⟩
 refine sk ?_
 refine sg ?_
 obtain ⟨x1,hx1,h⟩:=bindS h
 refine ⟨_,rfl,?_⟩
 refine CallOk.call (w_ref04N4 hx1) (LeL.refl _) ?_
 refine wT [(1,vi p_id),(4,.b 4 0),(6,.s (mU x1.1)),(7,vi x1.2)] [(4,.box [vi (0),vi (0),.v (.slice none 0 0),.v (.slice none 0 0)])] Q4 J1 rfl ?_
 refine sq ?_
 refine sg ?_
 refine wT [(1,vi p_id),(4,.b 4 0),(6,.s (mU x1.1)),(7,vi x1.2),(24,vb (x1.2 != 0))] [(4,.box [vi (0),vi (0),.v (.slice none 0 0),.v (.slice none 0 0)])] Q5 J1 rfl ?_
 refine cn 24 (x1.2 != 0) rfl h (fun hb h=>?_) fun hb h=>?_
 ·refine sg ?_
  refine ⟨_,rfl,?_⟩
  refine wT [(4,.b 4 0),(5,vi x1.2)] [(4,.box [vi (0),vi (0),.v (.slice none 0 0),.v (.slice none 0 0)])] Q2 J1 rfl ?_
  refine rt ?_
  cases h
  exact ⟨_,rfl,(Fz.t (.cons (Fz.a (.cons Fz.v (.cons Fz.v (.cons Fz.nil (.cons Fz.nil .nil))))) (.cons Fz.v .nil)))⟩
 refine sk ?_
 refine sq ?_
 refine sg ?_
 refine ⟨_,List.length_map _,fun _=>?_⟩
 refine wT [(1,vi p_id),(4,.b 4 0),(6,.s (mU x1.1)),(29,vb ((x1.1.length:Int) == 0))] [(4,.box [vi (0),vi (0),.v (.slice none 0 0),.v (.slice none 0 0)])] Q4 J1 rfl ?_
 refine cn 29 ((x1.1.length:Int) == 0) rfl h (fun hb h=>?_) fun hb h=>?_
 ·refine sg ?_
  refine ⟨_,rfl,?_⟩
  refine wT [(4,.b 4 0),(5,vi (41))] [(4,.box [vi (0),vi (0),.v (.slice none 0 0),.v (.slice none 0 0)])] Q2 J1 rfl ?_
  refine rt ?_
  cases h
  exact ⟨_,rfl,(Fz.t (.cons (Fz.a (.cons Fz.v (.cons Fz.v (.cons Fz.nil (.cons Fz.nil .nil))))) (.cons Fz.v .nil)))⟩
 refine sk ?_
 refine sq ?_
 refine sg ?_
 refine ⟨_,List.length_map _,fun _=>?_⟩
 refine wT [(1,vi p_id),(4,.b 4 0),(6,.s (mU x1.1)),(33,vb (decide ((x1.1.length:Int) < 4)))] [(4,.box [vi (0),vi (0),.v (.slice none 0 0),.v (.slice none 0 0)])] Q4 J1 rfl ?_
 refine cn 33 (decide ((x1.1.length:Int) < 4)) rfl h (fun hb h=>?_) fun hb h=>?_
 ·refine sg ?_
  refine ⟨_,rfl,?_⟩
  refine wT [(4,.b 4 0),(5,vi (251))] [(4,.box [vi (0),vi (0),.v (.slice none 0 0),.v (.slice none 0 0)])] Q2 J1 rfl ?_
  refine rt ?_
  cases h
  exact ⟨_,rfl,(Fz.t (.cons (Fz.a (.cons Fz.v (.cons Fz.v (.cons Fz.nil (.cons Fz.nil .nil))))) (.cons Fz.v .nil)))⟩
 refine sk ?_
 refine sg ?_
 obtain ⟨hc1,h⟩:=chk_some h
 obtain ⟨hc2,h⟩:=chk_some h
 obtain ⟨x2,hx2,h⟩:=bindS h
 refine ⟨_,List.length_map _,fun _=>(Or.inl ⟨hc1,_,sl_nat hc2.1,Nat.zero_le _,sl_len hc2,rowsK (f:=cU8) (K:=1) (fun _=>rfl) x1.1,_,sl_take _ _ _,?_⟩)⟩
 refine CallOk.call (w_ref25N2 hx2) (LeL.refl _) ?_
 refine ⟨_,rfl,?_⟩
 refine wT [(1,vi p_id),(4,.b 4 0),(6,.s (mU x1.1)),(8,.b 8 0),(9,vb x2.2)] [(4,.box [vi (0),vi (0),.v (.slice none 0 0),.v (.slice none 0 0)]),(8,.box [vi x2.1.Id,vi x2.1.Ver,.s (mU x2.1.Data),.s (mI x2.1.Sums)])] Q5 J2 rfl ?_
 refine sq ?_
 obtain ⟨v2,hv2,h⟩:=bindS h
 refine Ok.seqw ⟨Cat.tab [(4,.b 4 0),(8,.b 8 0),(63,vb v2)],[(4,.box [vi (0),vi (0),.v (.slice none 0 0),.v (.slice none 0 0)]),(8,.box [vi x2.1.Id,vi x2.1.Ver,.s (mU x2.1.Data),.s (mI x2.1.Sums)])]⟩ ?_ ?_
 ·refine rg ?_
  obtain ⟨c2,hg2,hv2⟩:=bindS hv2
  refine Br.itf hg2 (fun hb hg2=>?_) fun hb hg2=>?_
  ·cases hg2
   obtain ⟨c3,hg3,hv2⟩:=bindS hv2
   replace hg3:=iteT hg3
   cases hg3
   obtain ⟨c4,hg4,hv2⟩:=bindS hv2
   replace hg4:=iteT hg4
   cases hg4
   cases hv2
   exact wt Q3 J2 rfl
  obtain ⟨x3,hx3,hg2⟩:=bindS hg2
  refine ⟨_,rfl,?_⟩
  refine CallOk.call (w_ref25_May hx3) (LeL.refl _) ?_
  cases hg2
  obtain ⟨c3,hg5,hv2⟩:=bindS hv2
  refine Br.itf hg5 (fun hb hg5=>?_) fun hb hg5=>?_
  ·cases hg5
   obtain ⟨c4,hg6,hv2⟩:=bindS hv2
   replace hg6:=iteT hg6
   cases hg6
   cases hv2
   exact wt Q3 J2 rfl
  refine ⟨_,rfl,?_⟩
  cases hg5
  obtain ⟨c4,hg7,hv2⟩:=bindS hv2
  refine Br.itf hg7 (fun hb hg7=>?_) fun hb hg7=>?_
  ·cases hg7
   cases hv2
   exact wt Q3 J2 rfl
  obtain ⟨x4,hx4,hg7⟩:=bindS hg7
  refine ⟨_,rfl,?_⟩
  refine CallOk.call (w_ref25N1 hx4) (LeL.refl _) ?_
  obtain ⟨x5,hx5,hg7⟩:=bindS hg7
  refine CallOk.call (w_ref02N2 hx5) (LeL.refl _) ?_
  cases hg7
  cases hv2
  exact wt Q3 J2 rfl
 refine cn 63 (v2) rfl h (fun hb h=>?_) fun hb h=>?_
 ·refine sg ?_
  refine ⟨_,rfl,?_⟩
  refine wT [(4,.b 4 0),(5,vi (251))] [(4,.box [vi (0),vi (0),.v (.slice none 0 0),.v (.slice none 0 0)])] Q2 J1 rfl ?_
  refine rt ?_
  cases h
  exact ⟨_,rfl,(Fz.t (.cons (Fz.a (.cons Fz.v (.cons Fz.v (.cons Fz.nil (.cons Fz.nil .nil))))) (.cons Fz.v .nil)))⟩
 refine sk ?_
 refine sg ?_
 refine ⟨_,rfl,_,rfl,?_⟩
 refine wT [(4,.b 4 0),(5,vi (0))] [(4,.box [vi x2.1.Id,vi x2.1.Ver,.s (mU x2.1.Data),.s (mI x2.1.Sums)])] Q2 J1 rfl ?_
 refine rt ?_
 cases h
 exact ⟨_,rfl,(Fz.t (.cons (Fz.imm rfl) (.cons Fz.v .nil)))⟩
theorem w_diskN3 {p_p} {p_a1_0} {r} (h:disk_Rot_1 p_p p_a1_0=some r):Pure Tryz.prog 80 [(.a [(vi p_p.At),(.s (mU p_p.Data))]),(.p [(vi p_a1_0)])] (vb r):=by
 refine po Tryz.tok 8 Tryz.func80 (by kernel_rfl) rfl rfl rfl ?_
 unfold disk_Rot_1 at h
 refine wE [(0,.a [vi p_p.At,.s (mU p_p.Data)]),(1,.p [vi p_a1_0])] Q2 ?_
 refine sg ?_
 refine wT [(1,.p [vi p_a1_0]),(2,.b 2 0)] [(2,.box [vi p_p.At,.s (mU p_p.Data)])] Q2 J1 rfl ?_
 refine sg ?_
 refine ⟨_,rfl,_,rfl,?_⟩
 refine wE [(3,vb (p_p.At == p_a1_0))] Q1 ?_
 refine rt ?_
 cases h
 exact Fz.v
theorem w_slicesN8 {p_s} {p_f_c0_0} {r} (h:slicesN50 p_s p_f_c0_0=some r):Pure Tryz.prog 113 [(.s (mB p_s)),(.c (.func 80) [] [(.p [(vi p_f_c0_0)])])] (vi r):=by
 refine po Tryz.tok 19 Tryz.func113 (by kernel_rfl) rfl rfl rfl ?_
 unfold slicesN50 at h
 refine wE [(0,.s (mB p_s)),(1,.c (.func 80) [] [.p [vi p_f_c0_0]])] Q2 ?_
 refine sg ?_
 refine wE [(0,.s (mB p_s)),(1,.c (.func 80) [] [.p [vi p_f_c0_0]])] Q2 ?_
 refine Ok.seqj (fun v1=>⟨Cat.tab [],[]⟩) (fun v1=>slicesN52 v1=some r) ?_ ?_
 ·refine sg ?_
  refine ⟨_,List.length_map _,fun _=>?_⟩
  refine wE [(0,.s (mB p_s)),(1,.c (.func 80) [] [.p [vi p_f_c0_0]]),(7,vi (p_s.length:Int)),(8,vi (0))] Q4 ?_
  refine bl ?_
  refine Ok.loop (fun (s1:Int)=>⟨Cat.tab [(0,.s (mB p_s)),(1,.c (.func 80) [] [.p [vi p_f_c0_0]]),(7,vi (p_s.length:Int)),(8,vi s1)],[]⟩) (slicesN51 p_s p_f_c0_0) (s0:=0) h (wt Q4 Q0 rfl) ?_
  intro s1 y1 hB1 hy1
  unfold slicesN51 at hB1
  refine sg ?_
  refine wE [(0,.s (mB p_s)),(1,.c (.func 80) [] [.p [vi p_f_c0_0]]),(7,vi (p_s.length:Int)),(8,vi s1),(9,vb (decide (s1 < (p_s.length:Int))))] Q5 ?_
  refine sq ?_
  refine cn 9 (decide (s1 < (p_s.length:Int))) rfl hB1 (fun hb hB1=>?_) fun hb hB1=>?_
  ·refine sk ?_
   refine sq ?_
   refine bl ?_
   refine sg ?_
   refine wE [(0,.s (mB p_s)),(1,.c (.func 80) [] [.p [vi p_f_c0_0]]),(5,vi s1),(7,vi (p_s.length:Int)),(8,vi s1)] Q5 ?_
   refine sg ?_
   obtain ⟨x1,hx1,hB1⟩:=bindS hB1
   obtain ⟨x2,hx2,hB1⟩:=bindS hB1
   refine ⟨_,idx_nat hx1,_,idx_row hx1,_,rfl,?_⟩
   refine CallOk.call (w_diskN3 hx2) (LeL.refl _) ?_
   refine wE [(0,.s (mB p_s)),(1,.c (.func 80) [] [.p [vi p_f_c0_0]]),(5,vi s1),(7,vi (p_s.length:Int)),(8,vi s1),(16,vb x2)] Q6 ?_
   refine cn 16 (x2) rfl hB1 (fun hb hB1=>?_) fun hb hB1=>?_
   ·refine sg ?_
    refine wE [(4,vi s1)] Q1 ?_
    refine rt ?_
    have hB1:=out_ret hB1 hy1
    cases hB1
    exact Fz.v
   refine sk ?_
   refine rg ?_
   obtain ⟨hc1,hB1⟩:=chk_some hB1
   refine (Or.inl ⟨hc1,?_⟩)
   exact ⟨_,sj hB1,wt Q4 Q0 rfl⟩
  refine xt ?_
  have hB1:=out_ret hB1 hy1
  exact ⟨_,hB1,wt Q0 Q0 rfl⟩
 intro v1 h
 unfold slicesN52 at h
 refine sg ?_
 refine wE [(4,vi (-1))] Q1 ?_
 refine rt ?_
 cases h
 exact Fz.v
theorem w_diskN6 {p_l} {p_is_c0} {r} (h:diskN3 p_l p_is_c0=some r):Pure Tryz.prog 79 [(.s (mB p_l)),(.c (.func 80) [] [(.p [(vi p_is_c0)])])] (vi r):=by
 refine po Tryz.tok 8 Tryz.func79 (by kernel_rfl) rfl rfl rfl ?_
 unfold diskN3 at h
 refine wE [(0,.s (mB p_l)),(1,.c (.func 80) [] [.p [vi p_is_c0]])] Q2 ?_
 refine sg ?_
 refine wE [(0,.s (mB p_l)),(1,.c (.func 80) [] [.p [vi p_is_c0]])] Q2 ?_
 refine sg ?_
 obtain ⟨x1,hx1,h⟩:=bindS h
 refine CallOk.call (w_slicesN8 hx1) (LeL.refl _) ?_
 refine wE [(4,vi x1)] Q1 ?_
 refine rt ?_
 cases h
 exact Fz.v
theorem w_disk_Rot {p_d} {p_at} {p_bit} {r} (h:disk_Rot p_d p_at p_bit=some r):Pure Tryz.prog 50 [(.a [(.s (mB p_d.Synced)),(.s (mB p_d.Loose)),(vb p_d.Down)]),(vi p_at),(vi p_bit)] (.a [(.s (mB r.Synced)),(.s (mB r.Loose)),(vb r.Down)]):=by
 refine po Tryz.tok 60 Tryz.func50 (by kernel_rfl) rfl rfl rfl ?_
 unfold disk_Rot at h
 refine wE [(0,.a [.s (mB p_d.Synced),.s (mB p_d.Loose),vb p_d.Down]),(1,vi p_at),(2,vi p_bit)] Q3 ?_
 refine sg ?_
 refine wT [(2,vi p_bit),(3,.b 3 0),(4,.b 4 0),(6,.b 6 0)] [(3,.box [.s (mB p_d.Synced),.s (mB p_d.Loose),vb p_d.Down]),(4,.box [vi p_at]),(6,.box [.v (.slice none 0 0),.v (.slice none 0 0),vb false])] Q4 J3 rfl ?_
 refine sg ?_
 obtain ⟨x1,hx1,h⟩:=bindS h
 refine ⟨_,rfl,?_⟩
 refine CallOk.borrow (w_diskN6 hx1) (.cons Fz.s (.cons (Fz.c .nil (.cons (Fz.b rfl rfl) .nil)) (.nil))) rfl ?_
 refine wT [(2,vi p_bit),(3,.b 3 0),(6,.b 6 0),(7,vi x1)] [(3,.box [.s (mB p_d.Synced),.s (mB p_d.Loose),vb p_d.Down]),(6,.box [.v (.slice none 0 0),.v (.slice none 0 0),vb false])] Q4 J2 rfl ?_
 refine sq ?_
 obtain ⟨v1,hv1,h⟩:=bindS h
 refine Ok.seqw ⟨Cat.tab [(2,vi p_bit),(3,.b 3 0),(6,.b 6 0),(7,vi x1),(30,vb v1)],[(3,.box [.s (mB p_d.Synced),.s (mB p_d.Loose),vb p_d.Down]),(6,.box [.v (.slice none 0 0),.v (.slice none 0 0),vb false])]⟩ ?_ ?_
 ·refine rg ?_
  obtain ⟨c1,hg1,hv1⟩:=bindS hv1
  refine Br.itf hg1 (fun hb hg1=>?_) fun hb hg1=>?_
  ·cases hg1
   obtain ⟨c2,hg2,hv1⟩:=bindS hv1
   replace hg2:=iteT hg2
   cases hg2
   cases hv1
   exact wt Q5 J2 rfl
  cases hg1
  obtain ⟨c2,hg3,hv1⟩:=bindS hv1
  refine Br.itf hg3 (fun hb hg3=>?_) fun hb hg3=>?_
  ·cases hg3
   cases hv1
   exact wt Q5 J2 rfl
  obtain ⟨x2,hx2,hg3⟩:=bindS hg3
  obtain ⟨hc1,hg3⟩:=chk_some hg3
  refine ⟨_,rfl,_,idx_nat hx2,_,idx_row hx2,_,rfl,_,List.length_map _,fun _=>(Or.inl ⟨hc1,?_⟩)⟩
  cases hg3
  cases hv1
  exact wt Q5 J2 rfl
 refine cn 30 (v1) rfl h (fun hb h=>?_) fun hb h=>?_
 ·refine sg ?_
  refine ⟨_,rfl,_,rfl,?_⟩
  refine wT [(6,.b 6 0)] [(6,.box [.s (mB p_d.Synced),.s (mB p_d.Loose),vb p_d.Down])] Q1 J1 rfl ?_
  refine rt ?_
  cases h
  exact ⟨_,rfl,(Fz.imm rfl)⟩
 refine sk ?_
 refine sg ?_
 obtain ⟨x3,hx3,h⟩:=bindS h
 obtain ⟨x4,hx4,h⟩:=bindS h
 refine ⟨_,rfl,_,idx_nat hx3,_,idx_row hx3,_,rfl,?_⟩
 refine CallOk.own (D:=38) (wo_bytesN1 hx4) (LeL.refl _) rfl ?_
 refine wT [(2,vi p_bit),(3,.b 3 0),(6,.b 6 0),(7,vi x1),(8,.o 38)] [(3,.box [.s (mB p_d.Synced),.s (mB p_d.Loose),vb p_d.Down]),(6,.box [.v (.slice none 0 0),.v (.slice none 0 0),vb false]),(38,.own 5 1 (mU x4))] Q5 J3 rfl ?_
 refine sq ?_
 refine Ok.draw (m:=10) (MD:=⟨[]⟩) (CH:=⟨[]⟩) Tryz.tok Tryz.mixed (by kernel_rfl) ?_
 obtain ⟨x5,hx5,h⟩:=bindS h
 obtain ⟨hc2,h⟩:=chk_some h
 obtain ⟨x6,hx6,h⟩:=bindS h
 refine ⟨_,rfl,_,rfl,_,⟨(by decide),_,rfl,rfl⟩,_,⟨_,idx_nat hx5,idx_ltm hx5,rfl⟩,_,⟨_,idx_row hx5,rfl,_,rfl,rfl⟩,_,rfl,_,⟨(by decide),_,rfl,rfl⟩,_,⟨hc2,_,b8_shl _ _,rfl⟩,_,⟨_,b8_xor x5 (toU8 (shlK .u8 (1) (Int.tmod p_bit (8)))),rfl⟩,_,⟨_,idx_nat hx6,idx_ltm hx6,rfl⟩,Q0,_,idx_row hx6,rfl,_,rfl,_,set_row (f:=cU8) (x:=x5 ^^^ (toU8 (shlK .u8 (1) (Int.tmod p_bit (8))))),?_⟩
 refine wT [(3,.b 3 0),(6,.b 6 0),(7,vi x1),(8,.o 38)] [(3,.box [.s (mB p_d.Synced),.s (mB p_d.Loose),vb p_d.Down]),(6,.box [.v (.slice none 0 0),.v (.slice none 0 0),vb false]),(38,.own 5 1 (mU (x4.set (quoK .i64 p_bit (8)).toNat (x5 ^^^ (toU8 (shlK .u8 (1) (Int.tmod p_bit (8))))))))] Q4 J3 rfl ?_
 refine sg ?_
 obtain ⟨x7,hx7,h⟩:=bindS h
 refine ⟨_,rfl,?_⟩
 refine CallOk.own (D:=51) (wo_slicesN2 hx7) (LeL.refl _) rfl ?_
 refine ⟨_,rfl,?_⟩
 refine wT [(3,.b 3 0),(6,.b 6 0),(7,vi x1),(8,.o 38)] [(3,.box [.o 51,.s (mB p_d.Loose),vb p_d.Down]),(51,.own 110 2 (mB x7)),(6,.box [.v (.slice none 0 0),.v (.slice none 0 0),vb false]),(38,.own 5 1 (mU (x4.set (quoK .i64 p_bit (8)).toNat (x5 ^^^ (toU8 (shlK .u8 (1) (Int.tmod p_bit (8))))))))] Q4 J4 rfl ?_
 refine sq ?_
 refine Ok.wk (Wk.freeze (id:=38) rfl) ?_
 refine rg ?_
 obtain ⟨x8,hx8,h⟩:=bindS h
 refine ⟨_,rfl,_,idx_nat hx8,idx_ltm hx8,_,idx_row hx8,rfl,_,rfl,_,set_row (f:=c_api_Page) (x:=(⟨x8.At,(x4.set (quoK .i64 p_bit (8)).toNat (x5 ^^^ (toU8 (shlK .u8 (1) (Int.tmod p_bit (8))))))⟩:api_Page)),?_⟩
 refine wT [(3,.b 3 0),(6,.b 6 0)] [(3,.box [.o 51,.s (mB p_d.Loose),vb p_d.Down]),(51,.own 110 2 (mB (x7.set x1.toNat (⟨x8.At,(x4.set (quoK .i64 p_bit (8)).toNat (x5 ^^^ (toU8 (shlK .u8 (1) (Int.tmod p_bit (8))))))⟩:api_Page)))),(6,.box [.v (.slice none 0 0),.v (.slice none 0 0),vb false])] Q2 J3 rfl ?_
 refine sg ?_
 refine ⟨_,rfl,_,rfl,?_⟩
 refine wT [(6,.b 6 0)] [(6,.box [.o 51,.s (mB p_d.Loose),vb p_d.Down]),(51,.own 110 2 (mB (x7.set x1.toNat (⟨x8.At,(x4.set (quoK .i64 p_bit (8)).toNat (x5 ^^^ (toU8 (shlK .u8 (1) (Int.tmod p_bit (8))))))⟩:api_Page))))] Q1 J2 rfl ?_
 refine rt ?_
 cases h
 exact ⟨_,rfl,(Fz.a (.cons (Fz.o rfl) (.cons Fz.s (.cons Fz.v .nil))))⟩
theorem w_law26N5 {p_data} {r} (h:law26_which p_data=some r):Pure Tryz.prog 33 [(.s (mU p_data))] (vi r):=by
 refine po Tryz.tok 20 Tryz.func33 (by kernel_rfl) rfl rfl rfl ?_
 unfold law26_which at h
 refine wE [(0,.s (mU p_data))] Q1 ?_
 refine sg ?_
 refine wE [(0,.s (mU p_data))] Q1 ?_
 refine sq ?_
 refine sg ?_
 refine ⟨_,List.length_map _,fun _=>?_⟩
 refine wE [(0,.s (mU p_data)),(6,vb ((p_data.length:Int) == 0))] Q2 ?_
 refine cn 6 ((p_data.length:Int) == 0) rfl h (fun hb h=>?_) fun hb h=>?_
 ·refine sg ?_
  refine wE [(2,vi (-1))] Q1 ?_
  refine rt ?_
  cases h
  exact Fz.v
 refine sk ?_
 refine sg ?_
 obtain ⟨x1,hx1,h⟩:=bindS h
 obtain ⟨x2,hx2,h⟩:=bindS h
 refine ⟨_,idx_nat hx1,_,idx_row hx1,_,rfl,_,wrap_of_u8 (k:=.i64) (by decide) _,?_⟩
 refine CallOk.call (w_law26N3 hx2) (LeL.refl _) ?_
 obtain ⟨x3,hx3,h⟩:=bindS h
 refine CallOk.call (w_ref04N1 hx3) (LeL.refl _) ?_
 refine wE [(0,.s (mU p_data)),(3,vb x3)] Q2 ?_
 refine sq ?_
 refine sg ?_
 refine wE [(0,.s (mU p_data)),(15,vb (!x3))] Q2 ?_
 refine cn 15 (!x3) rfl h (fun hb h=>?_) fun hb h=>?_
 ·refine sg ?_
  refine wE [(2,vi (-1))] Q1 ?_
  refine rt ?_
  cases h
  exact Fz.v
 refine sk ?_
 refine sg ?_
 obtain ⟨x4,hx4,h⟩:=bindS h
 refine ⟨_,idx_nat hx4,_,idx_row hx4,_,rfl,_,wrap_of_u8 (k:=.i64) (by decide) _,?_⟩
 refine wE [(2,vi (x4.toNat:Int))] Q1 ?_
 refine rt ?_
 cases h
 exact Fz.v
theorem w_law26_Do [Off] {p_w} {p_x} {r} (h:law26_Do p_w p_x=some r):Pure Tryz.prog 21 [(.a [(vi p_w.C.Id),(vi p_w.C.Ver),(.s (mI p_w.C.Servers)),(.s (mA p_w.Disks)),(vi p_w.Begun),(vi p_w.Ack),(vi p_w.Read)]),(.a [(vu p_x.Do),(vu p_x.Who),(.v (.int .u16 p_x.N))])] (.t [(.a [(vi r.1.C.Id),(vi r.1.C.Ver),(.s (mI r.1.C.Servers)),(.s (mA r.1.Disks)),(vi r.1.Begun),(vi r.1.Ack),(vi r.1.Read)]),(vb r.2)]):=by
 refine po Tryz.tok 220 Tryz.func21 (by kernel_rfl) rfl rfl rfl ?_
 unfold law26_Do at h
 refine wE [(0,.a [vi p_w.C.Id,vi p_w.C.Ver,.s (mI p_w.C.Servers),.s (mA p_w.Disks),vi p_w.Begun,vi p_w.Ack,vi p_w.Read]),(1,.a [vu p_x.Do,vu p_x.Who,.v (.int .u16 p_x.N)])] Q2 ?_
 refine sg ?_
 refine sg ?_
 refine ⟨_,rfl,_,wrap_of_u8 (k:=.i64) (by decide) _,(by decide),_,rfl,?_⟩
 refine wT [(2,.b 2 0),(3,.b 3 0),(4,.b 4 0),(6,vi (Int.tmod (p_x.Who.toNat:Int) (6)))] [(2,.box [vi p_w.C.Id,vi p_w.C.Ver,.s (mI p_w.C.Servers),.s (mA p_w.Disks),vi p_w.Begun,vi p_w.Ack,vi p_w.Read]),(3,.box [vu p_x.Do,vu p_x.Who,.v (.int .u16 p_x.N)]),(4,.box [vi (0),vi (0),.v (.slice none 0 0),.v (.slice none 0 0),vi (0),vi (0),vi (0)])] Q4 J3 rfl ?_
 refine sg ?_
 obtain ⟨x1,hx1,h⟩:=bindS h
 refine ⟨_,rfl,?_⟩
 refine CallOk.call (w_law26_May hx1) (LeL.refl _) ?_
 refine sq ?_
 refine sg ?_
 refine wT [(2,.b 2 0),(3,.b 3 0),(4,.b 4 0),(6,vi (Int.tmod (p_x.Who.toNat:Int) (6))),(31,vb (!x1))] [(2,.box [vi p_w.C.Id,vi p_w.C.Ver,.s (mI p_w.C.Servers),.s (mA p_w.Disks),vi p_w.Begun,vi p_w.Ack,vi p_w.Read]),(3,.box [vu p_x.Do,vu p_x.Who,.v (.int .u16 p_x.N)]),(4,.box [vi (0),vi (0),.v (.slice none 0 0),.v (.slice none 0 0),vi (0),vi (0),vi (0)])] Q5 J3 rfl ?_
 refine cn 31 (!x1) rfl h (fun hb h=>?_) fun hb h=>?_
 ·refine sg ?_
  refine ⟨_,rfl,_,rfl,?_⟩
  refine wT [(4,.b 4 0),(5,vb false)] [(4,.box [vi p_w.C.Id,vi p_w.C.Ver,.s (mI p_w.C.Servers),.s (mA p_w.Disks),vi p_w.Begun,vi p_w.Ack,vi p_w.Read])] Q2 J1 rfl ?_
  refine rt ?_
  cases h
  exact ⟨_,rfl,(Fz.t (.cons (Fz.imm rfl) (.cons Fz.v .nil)))⟩
 refine sk ?_
 refine sq ?_
 refine sg ?_
 refine ⟨_,rfl,(by decide),_,b8_rem _ _,?_⟩
 refine wT [(2,.b 2 0),(3,.b 3 0),(4,.b 4 0),(6,vi (Int.tmod (p_x.Who.toNat:Int) (6))),(35,vu (toU8 (Int.tmod (p_x.Do.toNat:Int) (12))))] [(2,.box [vi p_w.C.Id,vi p_w.C.Ver,.s (mI p_w.C.Servers),.s (mA p_w.Disks),vi p_w.Begun,vi p_w.Ack,vi p_w.Read]),(3,.box [vu p_x.Do,vu p_x.Who,.v (.int .u16 p_x.N)]),(4,.box [vi (0),vi (0),.v (.slice none 0 0),.v (.slice none 0 0),vi (0),vi (0),vi (0)])] Q5 J3 rfl ?_
 refine bl ?_
 refine sg ?_
 refine cn 36 (((toU8 (Int.tmod (p_x.Do.toNat:Int) (12))).toNat:Int) == 5) rfl h (fun hb h=>?_) fun hb h=>?_
 ·refine sg ?_
  obtain ⟨x2,hx2,h⟩:=bindS h
  refine ⟨_,rfl,_,rfl,?_⟩
  refine CallOk.call (w_chain_Cut hx2) (LeL.refl _) ?_
  refine ⟨_,rfl,?_⟩
  refine wT [(2,.b 2 0),(4,.b 4 0),(8,.b 8 0),(9,.s (mA x2.2.1)),(10,vi x2.2.2)] [(2,.box [vi p_w.C.Id,vi p_w.C.Ver,.s (mI p_w.C.Servers),.s (mA p_w.Disks),vi p_w.Begun,vi p_w.Ack,vi p_w.Read]),(4,.box [vi (0),vi (0),.v (.slice none 0 0),.v (.slice none 0 0),vi (0),vi (0),vi (0)]),(8,.box [vi x2.1.Id,vi x2.1.Ver,.s (mI x2.1.Servers)])] Q5 J3 rfl ?_
  refine sg ?_
  refine ⟨_,rfl,_,rfl,?_⟩
  refine sg ?_
  refine ⟨_,rfl,?_⟩
  refine wT [(2,.b 2 0),(4,.b 4 0),(10,vi x2.2.2)] [(2,.box [vi x2.1.Id,vi x2.1.Ver,.s (mI x2.1.Servers),.s (mA x2.2.1),vi p_w.Begun,vi p_w.Ack,vi p_w.Read]),(4,.box [vi (0),vi (0),.v (.slice none 0 0),.v (.slice none 0 0),vi (0),vi (0),vi (0)])] Q3 J2 rfl ?_
  obtain ⟨v1,hv1,h⟩:=bindS h
  refine Ok.seqw ⟨Cat.tab [(4,.b 4 0),(5,vb v1)],[(4,.box [vi x2.1.Id,vi x2.1.Ver,.s (mI x2.1.Servers),.s (mA x2.2.1),vi p_w.Begun,vi p_w.Ack,vi p_w.Read])]⟩ ?_ ?_
  ·refine rg ?_
   refine ⟨_,rfl,?_⟩
   obtain ⟨c1,hg1,hv1⟩:=bindS hv1
   refine Br.itf hg1 (fun hb hg1=>?_) fun hb hg1=>?_
   ·cases hg1
    obtain ⟨c2,hg2,hv1⟩:=bindS hv1
    replace hg2:=iteT hg2
    cases hg2
    refine ⟨_,rfl,?_⟩
    cases hv1
    exact wt Q2 J1 rfl
   cases hg1
   obtain ⟨c2,hg3,hv1⟩:=bindS hv1
   refine Br.itf hg3 (fun hb hg3=>?_) fun hb hg3=>?_
   ·cases hg3
    refine ⟨_,rfl,?_⟩
    cases hv1
    exact wt Q2 J1 rfl
   cases hg3
   refine ⟨_,rfl,?_⟩
   cases hv1
   exact wt Q2 J1 rfl
  refine rt ?_
  cases h
  exact ⟨_,rfl,(Fz.t (.cons (Fz.imm rfl) (.cons Fz.v .nil)))⟩
 refine sg ?_
 refine wT [(2,.b 2 0),(3,.b 3 0),(4,.b 4 0),(6,vi (Int.tmod (p_x.Who.toNat:Int) (6))),(35,vu (toU8 (Int.tmod (p_x.Do.toNat:Int) (12)))),(63,vb (((toU8 (Int.tmod (p_x.Do.toNat:Int) (12))).toNat:Int) == 6))] [(2,.box [vi p_w.C.Id,vi p_w.C.Ver,.s (mI p_w.C.Servers),.s (mA p_w.Disks),vi p_w.Begun,vi p_w.Ack,vi p_w.Read]),(3,.box [vu p_x.Do,vu p_x.Who,.v (.int .u16 p_x.N)]),(4,.box [vi (0),vi (0),.v (.slice none 0 0),.v (.slice none 0 0),vi (0),vi (0),vi (0)])] Q6 J3 rfl ?_
 refine cn 63 (((toU8 (Int.tmod (p_x.Do.toNat:Int) (12))).toNat:Int) == 6) rfl h (fun hb h=>?_) fun hb h=>?_
 ·refine sg ?_
  obtain ⟨x3,hx3,h⟩:=bindS h
  refine ⟨_,rfl,_,rfl,?_⟩
  refine CallOk.call (w_chainN6 hx3) (LeL.refl _) ?_
  refine ⟨_,rfl,?_⟩
  refine wT [(2,.b 2 0),(4,.b 4 0),(11,.b 11 0),(12,.s (mA x3.2.1))] [(2,.box [vi p_w.C.Id,vi p_w.C.Ver,.s (mI p_w.C.Servers),.s (mA p_w.Disks),vi p_w.Begun,vi p_w.Ack,vi p_w.Read]),(4,.box [vi (0),vi (0),.v (.slice none 0 0),.v (.slice none 0 0),vi (0),vi (0),vi (0)]),(11,.box [vi x3.1.Id,vi x3.1.Ver,.s (mI x3.1.Servers)])] Q4 J3 rfl ?_
  refine sg ?_
  refine ⟨_,rfl,_,rfl,?_⟩
  refine sg ?_
  refine ⟨_,rfl,?_⟩
  refine wT [(2,.b 2 0),(4,.b 4 0)] [(2,.box [vi x3.1.Id,vi x3.1.Ver,.s (mI x3.1.Servers),.s (mA x3.2.1),vi p_w.Begun,vi p_w.Ack,vi p_w.Read]),(4,.box [vi (0),vi (0),.v (.slice none 0 0),.v (.slice none 0 0),vi (0),vi (0),vi (0)])] Q2 J2 rfl ?_
  refine sg ?_
  refine ⟨_,rfl,_,rfl,?_⟩
  refine wT [(4,.b 4 0),(5,vb true)] [(4,.box [vi x3.1.Id,vi x3.1.Ver,.s (mI x3.1.Servers),.s (mA x3.2.1),vi p_w.Begun,vi p_w.Ack,vi p_w.Read])] Q2 J1 rfl ?_
  refine rt ?_
  cases h
  exact ⟨_,rfl,(Fz.t (.cons (Fz.imm rfl) (.cons Fz.v .nil)))⟩
 refine sg ?_
 refine wT [(2,.b 2 0),(3,.b 3 0),(4,.b 4 0),(6,vi (Int.tmod (p_x.Who.toNat:Int) (6))),(35,vu (toU8 (Int.tmod (p_x.Do.toNat:Int) (12)))),(80,vb (((toU8 (Int.tmod (p_x.Do.toNat:Int) (12))).toNat:Int) == 7))] [(2,.box [vi p_w.C.Id,vi p_w.C.Ver,.s (mI p_w.C.Servers),.s (mA p_w.Disks),vi p_w.Begun,vi p_w.Ack,vi p_w.Read]),(3,.box [vu p_x.Do,vu p_x.Who,.v (.int .u16 p_x.N)]),(4,.box [vi (0),vi (0),.v (.slice none 0 0),.v (.slice none 0 0),vi (0),vi (0),vi (0)])] Q6 J3 rfl ?_
 refine cn 80 (((toU8 (Int.tmod (p_x.Do.toNat:Int) (12))).toNat:Int) == 7) rfl h (fun hb h=>?_) fun hb h=>?_
 ·refine sg ?_
  obtain ⟨x4,hx4,h⟩:=bindS h
  refine ⟨_,rfl,_,rfl,?_⟩
  refine CallOk.call (w_chainN7 hx4) (LeL.refl _) ?_
  refine wT [(2,.b 2 0),(4,.b 4 0),(14,.s (mA x4.1))] [(2,.box [vi p_w.C.Id,vi p_w.C.Ver,.s (mI p_w.C.Servers),.s (mA p_w.Disks),vi p_w.Begun,vi p_w.Ack,vi p_w.Read]),(4,.box [vi (0),vi (0),.v (.slice none 0 0),.v (.slice none 0 0),vi (0),vi (0),vi (0)])] Q3 J2 rfl ?_
  refine sg ?_
  refine ⟨_,rfl,?_⟩
  refine sg ?_
  refine ⟨_,rfl,_,rfl,?_⟩
  refine wT [(4,.b 4 0),(5,vb true)] [(4,.box [vi p_w.C.Id,vi p_w.C.Ver,.s (mI p_w.C.Servers),.s (mA x4.1),vi p_w.Begun,vi p_w.Ack,vi p_w.Read])] Q2 J1 rfl ?_
  refine rt ?_
  cases h
  exact ⟨_,rfl,(Fz.t (.cons (Fz.imm rfl) (.cons Fz.v .nil)))⟩
 refine sg ?_
 refine wT [(2,.b 2 0),(3,.b 3 0),(4,.b 4 0),(6,vi (Int.tmod (p_x.Who.toNat:Int) (6))),(35,vu (toU8 (Int.tmod (p_x.Do.toNat:Int) (12)))),(94,vb (((toU8 (Int.tmod (p_x.Do.toNat:Int) (12))).toNat:Int) == 8))] [(2,.box [vi p_w.C.Id,vi p_w.C.Ver,.s (mI p_w.C.Servers),.s (mA p_w.Disks),vi p_w.Begun,vi p_w.Ack,vi p_w.Read]),(3,.box [vu p_x.Do,vu p_x.Who,.v (.int .u16 p_x.N)]),(4,.box [vi (0),vi (0),.v (.slice none 0 0),.v (.slice none 0 0),vi (0),vi (0),vi (0)])] Q6 J3 rfl ?_
 refine cn 94 (((toU8 (Int.tmod (p_x.Do.toNat:Int) (12))).toNat:Int) == 8) rfl h (fun hb h=>?_) fun hb h=>?_
 ·refine sq ?_
  refine Ok.draw (m:=15) (MD:=⟨[]⟩) (CH:=⟨[]⟩) Tryz.tok Tryz.mixed (by kernel_rfl) ?_
  obtain ⟨x5,hx5,h⟩:=bindS h
  obtain ⟨x6,hx6,h⟩:=bindS h
  obtain ⟨x7,hx7,h⟩:=bindS h
  refine ⟨_,rfl,_,⟨_,rfl,rfl⟩,_,rfl,_,rfl,_,⟨_,rfl,rfl⟩,_,rfl,_,⟨_,idx_nat hx5,_,idx_row hx5,rfl⟩,_,⟨_,rfl,rfl⟩,_,rfl,_,⟨_,rfl,rfl⟩,_,⟨_,rfl,rfl⟩,_,⟨(by decide),_,rfl,rfl⟩,_,⟨_,.of_pure (w_diskN1 hx6) (LeL.refl _),rfl⟩,_,⟨_,.of_pure (w_law26N6 hx7) (LeL.refl _),rfl⟩,_,rfl,Q0,_,rfl,?_⟩
  refine wT [(2,.b 2 0),(4,.b 4 0)] [(2,.box [vi p_w.C.Id,vi p_w.C.Ver,.s (mI p_w.C.Servers),.s (mA x7),vi p_w.Begun,vi p_w.Ack,vi p_w.Read]),(4,.box [vi (0),vi (0),.v (.slice none 0 0),.v (.slice none 0 0),vi (0),vi (0),vi (0)])] Q2 J2 rfl ?_
  refine sg ?_
  refine ⟨_,rfl,_,rfl,?_⟩
  refine wT [(4,.b 4 0),(5,vb true)] [(4,.box [vi p_w.C.Id,vi p_w.C.Ver,.s (mI p_w.C.Servers),.s (mA x7),vi p_w.Begun,vi p_w.Ack,vi p_w.Read])] Q2 J1 rfl ?_
  refine rt ?_
  cases h
  exact ⟨_,rfl,(Fz.t (.cons (Fz.imm rfl) (.cons Fz.v .nil)))⟩
 refine sg ?_
 refine wT [(2,.b 2 0),(3,.b 3 0),(4,.b 4 0),(6,vi (Int.tmod (p_x.Who.toNat:Int) (6))),(35,vu (toU8 (Int.tmod (p_x.Do.toNat:Int) (12)))),(112,vb (((toU8 (Int.tmod (p_x.Do.toNat:Int) (12))).toNat:Int) == 9))] [(2,.box [vi p_w.C.Id,vi p_w.C.Ver,.s (mI p_w.C.Servers),.s (mA p_w.Disks),vi p_w.Begun,vi p_w.Ack,vi p_w.Read]),(3,.box [vu p_x.Do,vu p_x.Who,.v (.int .u16 p_x.N)]),(4,.box [vi (0),vi (0),.v (.slice none 0 0),.v (.slice none 0 0),vi (0),vi (0),vi (0)])] Q6 J3 rfl ?_
 refine cn 112 (((toU8 (Int.tmod (p_x.Do.toNat:Int) (12))).toNat:Int) == 9) rfl h (fun hb h=>?_) fun hb h=>?_
 ·refine sq ?_
  refine Ok.draw (m:=11) (MD:=⟨[]⟩) (CH:=⟨[]⟩) Tryz.tok Tryz.mixed (by kernel_rfl) ?_
  obtain ⟨x8,hx8,h⟩:=bindS h
  obtain ⟨x9,hx9,h⟩:=bindS h
  obtain ⟨x10,hx10,h⟩:=bindS h
  refine ⟨_,rfl,_,⟨_,rfl,rfl⟩,_,rfl,_,rfl,_,⟨_,rfl,rfl⟩,_,rfl,_,⟨_,idx_nat hx8,_,idx_row hx8,rfl⟩,_,⟨_,rfl,rfl⟩,_,⟨_,.of_pure (w_disk_Up hx9) (LeL.refl _),rfl⟩,_,⟨_,.of_pure (w_law26N6 hx10) (LeL.refl _),rfl⟩,_,rfl,Q0,_,rfl,?_⟩
  refine wT [(2,.b 2 0),(4,.b 4 0)] [(2,.box [vi p_w.C.Id,vi p_w.C.Ver,.s (mI p_w.C.Servers),.s (mA x10),vi p_w.Begun,vi p_w.Ack,vi p_w.Read]),(4,.box [vi (0),vi (0),.v (.slice none 0 0),.v (.slice none 0 0),vi (0),vi (0),vi (0)])] Q2 J2 rfl ?_
  refine sg ?_
  refine ⟨_,rfl,_,rfl,?_⟩
  refine wT [(4,.b 4 0),(5,vb true)] [(4,.box [vi p_w.C.Id,vi p_w.C.Ver,.s (mI p_w.C.Servers),.s (mA x10),vi p_w.Begun,vi p_w.Ack,vi p_w.Read])] Q2 J1 rfl ?_
  refine rt ?_
  cases h
  exact ⟨_,rfl,(Fz.t (.cons (Fz.imm rfl) (.cons Fz.v .nil)))⟩
 refine sg ?_
 refine wT [(2,.b 2 0),(3,.b 3 0),(4,.b 4 0),(6,vi (Int.tmod (p_x.Who.toNat:Int) (6))),(35,vu (toU8 (Int.tmod (p_x.Do.toNat:Int) (12)))),(126,vb (((toU8 (Int.tmod (p_x.Do.toNat:Int) (12))).toNat:Int) == 10))] [(2,.box [vi p_w.C.Id,vi p_w.C.Ver,.s (mI p_w.C.Servers),.s (mA p_w.Disks),vi p_w.Begun,vi p_w.Ack,vi p_w.Read]),(3,.box [vu p_x.Do,vu p_x.Who,.v (.int .u16 p_x.N)]),(4,.box [vi (0),vi (0),.v (.slice none 0 0),.v (.slice none 0 0),vi (0),vi (0),vi (0)])] Q6 J3 rfl ?_
 refine cn 126 (((toU8 (Int.tmod (p_x.Do.toNat:Int) (12))).toNat:Int) == 10) rfl h (fun hb h=>?_) fun hb h=>?_
 ·refine sg ?_
  obtain ⟨x11,hx11,h⟩:=bindS h
  obtain ⟨x12,hx12,h⟩:=bindS h
  refine ⟨_,rfl,_,idx_nat hx11,_,idx_row hx11,_,rfl,?_⟩
  refine CallOk.call (w_ref25_Get hx12) (LeL.refl _) ?_
  refine ⟨_,rfl,?_⟩
  refine wT [(2,.b 2 0),(3,.b 3 0),(4,.b 4 0),(6,vi (Int.tmod (p_x.Who.toNat:Int) (6))),(17,vi x12.2)] [(2,.box [vi p_w.C.Id,vi p_w.C.Ver,.s (mI p_w.C.Servers),.s (mA p_w.Disks),vi p_w.Begun,vi p_w.Ack,vi p_w.Read]),(3,.box [vu p_x.Do,vu p_x.Who,.v (.int .u16 p_x.N)]),(4,.box [vi (0),vi (0),.v (.slice none 0 0),.v (.slice none 0 0),vi (0),vi (0),vi (0)])] Q5 J3 rfl ?_
  refine sq ?_
  refine sg ?_
  refine cn 138 (x12.2 != 0) rfl h (fun hb h=>?_) fun hb h=>?_
  ·refine sg ?_
   refine ⟨_,rfl,_,rfl,?_⟩
   refine wT [(4,.b 4 0),(5,vb true)] [(4,.box [vi p_w.C.Id,vi p_w.C.Ver,.s (mI p_w.C.Servers),.s (mA p_w.Disks),vi p_w.Begun,vi p_w.Ack,vi p_w.Read])] Q2 J1 rfl ?_
   refine rt ?_
   cases h
   exact ⟨_,rfl,(Fz.t (.cons (Fz.imm rfl) (.cons Fz.v .nil)))⟩
  refine sk ?_
  refine sq ?_
  refine Ok.draw (m:=15) (MD:=⟨[]⟩) (CH:=⟨[]⟩) Tryz.tok Tryz.mixed (by kernel_rfl) ?_
  obtain ⟨x13,hx13,h⟩:=bindS h
  obtain ⟨x14,hx14,h⟩:=bindS h
  obtain ⟨x15,hx15,h⟩:=bindS h
  refine ⟨_,rfl,_,⟨_,rfl,rfl⟩,_,rfl,_,rfl,_,⟨_,rfl,rfl⟩,_,rfl,_,⟨_,idx_nat hx13,_,idx_row hx13,rfl⟩,_,⟨_,rfl,rfl⟩,_,rfl,_,⟨_,rfl,rfl⟩,_,⟨_,rfl,rfl⟩,_,⟨(by decide),_,rfl,rfl⟩,_,⟨_,.of_pure (w_disk_Rot hx14) (LeL.refl _),rfl⟩,_,⟨_,.of_pure (w_law26N6 hx15) (LeL.refl _),rfl⟩,_,rfl,Q0,_,rfl,?_⟩
  refine wT [(2,.b 2 0),(4,.b 4 0)] [(2,.box [vi p_w.C.Id,vi p_w.C.Ver,.s (mI p_w.C.Servers),.s (mA x15),vi p_w.Begun,vi p_w.Ack,vi p_w.Read]),(4,.box [vi (0),vi (0),.v (.slice none 0 0),.v (.slice none 0 0),vi (0),vi (0),vi (0)])] Q2 J2 rfl ?_
  refine sg ?_
  refine ⟨_,rfl,_,rfl,?_⟩
  refine wT [(4,.b 4 0),(5,vb true)] [(4,.box [vi p_w.C.Id,vi p_w.C.Ver,.s (mI p_w.C.Servers),.s (mA x15),vi p_w.Begun,vi p_w.Ack,vi p_w.Read])] Q2 J1 rfl ?_
  refine rt ?_
  cases h
  exact ⟨_,rfl,(Fz.t (.cons (Fz.imm rfl) (.cons Fz.v .nil)))⟩
 refine sg ?_
 refine wT [(2,.b 2 0),(3,.b 3 0),(4,.b 4 0),(156,vb (((toU8 (Int.tmod (p_x.Do.toNat:Int) (12))).toNat:Int) == 11))] [(2,.box [vi p_w.C.Id,vi p_w.C.Ver,.s (mI p_w.C.Servers),.s (mA p_w.Disks),vi p_w.Begun,vi p_w.Ack,vi p_w.Read]),(3,.box [vu p_x.Do,vu p_x.Who,.v (.int .u16 p_x.N)]),(4,.box [vi (0),vi (0),.v (.slice none 0 0),.v (.slice none 0 0),vi (0),vi (0),vi (0)])] Q4 J3 rfl ?_
 refine cn 156 (((toU8 (Int.tmod (p_x.Do.toNat:Int) (12))).toNat:Int) == 11) rfl h (fun hb h=>?_) fun hb h=>?_
 ·refine sg ?_
  obtain ⟨x16,hx16,h⟩:=bindS h
  refine ⟨_,rfl,_,rfl,?_⟩
  refine CallOk.call (w_chainN9 hx16) (LeL.refl _) ?_
  refine wT [(2,.b 2 0),(4,.b 4 0),(18,.s (mU x16.1)),(19,vi x16.2)] [(2,.box [vi p_w.C.Id,vi p_w.C.Ver,.s (mI p_w.C.Servers),.s (mA p_w.Disks),vi p_w.Begun,vi p_w.Ack,vi p_w.Read]),(4,.box [vi (0),vi (0),.v (.slice none 0 0),.v (.slice none 0 0),vi (0),vi (0),vi (0)])] Q4 J2 rfl ?_
  refine sq ?_
  refine sg ?_
  refine cn 167 (x16.2 != 0) rfl h (fun hb h=>?_) fun hb h=>?_
  ·refine sg ?_
   refine ⟨_,rfl,_,List.length_map _,fun _=>⟨_,rfl,?_⟩⟩
   refine wT [(4,.b 4 0),(5,vb ((x16.1.length:Int) == 0))] [(4,.box [vi p_w.C.Id,vi p_w.C.Ver,.s (mI p_w.C.Servers),.s (mA p_w.Disks),vi p_w.Begun,vi p_w.Ack,vi p_w.Read])] Q2 J1 rfl ?_
   refine rt ?_
   cases h
   exact ⟨_,rfl,(Fz.t (.cons (Fz.imm rfl) (.cons Fz.v .nil)))⟩
  refine sk ?_
  refine sg ?_
  obtain ⟨x17,hx17,h⟩:=bindS h
  refine CallOk.call (w_law26N5 hx17) (LeL.refl _) ?_
  refine wT [(2,.b 2 0),(4,.b 4 0),(20,vi x17)] [(2,.box [vi p_w.C.Id,vi p_w.C.Ver,.s (mI p_w.C.Servers),.s (mA p_w.Disks),vi p_w.Begun,vi p_w.Ack,vi p_w.Read]),(4,.box [vi (0),vi (0),.v (.slice none 0 0),.v (.slice none 0 0),vi (0),vi (0),vi (0)])] Q3 J2 rfl ?_
  refine sg ?_
  refine ⟨_,rfl,?_⟩
  refine sg ?_
  refine ⟨_,rfl,?_⟩
  refine wT [(2,.b 2 0),(4,.b 4 0),(20,vi x17),(21,vi p_w.Read)] [(2,.box [vi p_w.C.Id,vi p_w.C.Ver,.s (mI p_w.C.Servers),.s (mA p_w.Disks),vi p_w.Begun,vi p_w.Ack,vi x17]),(4,.box [vi (0),vi (0),.v (.slice none 0 0),.v (.slice none 0 0),vi (0),vi (0),vi (0)])] Q4 J2 rfl ?_
  obtain ⟨v2,hv2,h⟩:=bindS h
  refine Ok.seqw ⟨Cat.tab [(4,.b 4 0),(5,vb v2)],[(4,.box [vi p_w.C.Id,vi p_w.C.Ver,.s (mI p_w.C.Servers),.s (mA p_w.Disks),vi p_w.Begun,vi p_w.Ack,vi x17])]⟩ ?_ ?_
  ·refine Ok.draw2 (m:=16) (late:=[11,12,13,14,15]) (MD:=⟨[]⟩) (CH:=⟨[]⟩) Tryz.tok Tryz.mixed (by kernel_rfl) ?_
   refine ⟨_,⟨_,rfl,rfl⟩,_,rfl,_,rfl,_,⟨_,rfl,rfl⟩,_,rfl,_,rfl,?_⟩
   obtain ⟨c3,hg4,hv2⟩:=bindS hv2
   refine Br.ite hg4 (fun hb hg4=>?_) fun hb hg4=>?_
   ·refine ⟨_,rfl,_,rfl,_,rfl,?_⟩
    cases hg4
    refine ⟨_,rfl,?_⟩
    refine ⟨_,rfl,?_⟩
    obtain ⟨c4,hg5,hv2⟩:=bindS hv2
    refine Br.ite hg5 (fun hb hg5=>?_) fun hb hg5=>?_
    ·refine ⟨_,rfl,_,rfl,_,⟨_,rfl,rfl⟩,_,rfl,?_⟩
     cases hg5
     refine ⟨_,rfl,?_⟩
     refine ⟨Q0,?_⟩
     refine ⟨_,rfl,⟨⟨_,rfl,_,rfl,.inl ⟨rfl,rfl⟩⟩,⟨_,rfl,_,rfl,.inl ⟨rfl,rfl⟩⟩,⟨_,rfl,_,rfl,.inl ⟨rfl,_,rfl,rfl⟩⟩,⟨_,rfl,_,rfl,.inl ⟨rfl,rfl⟩⟩,⟨_,rfl,rfl⟩,Q0⟩,?_⟩
     cases hv2
     exact wt Q2 J1 rfl
    cases hg5
    refine ⟨_,rfl,?_⟩
    refine ⟨Q0,?_⟩
    refine ⟨_,rfl,⟨⟨_,rfl,_,rfl,.inr (.inl ⟨rfl,rfl⟩)⟩,⟨_,rfl,_,rfl,.inr (.inl ⟨rfl,rfl⟩)⟩,⟨_,rfl,_,rfl,.inr (.inl ⟨rfl,rfl⟩)⟩,⟨_,rfl,_,rfl,.inr (.inl ⟨rfl,rfl⟩)⟩,⟨_,rfl,rfl⟩,Q0⟩,?_⟩
    cases hv2
    exact wt Q2 J1 rfl
   cases hg4
   refine ⟨_,rfl,?_⟩
   refine ⟨_,rfl,?_⟩
   obtain ⟨c4,hg6,hv2⟩:=bindS hv2
   replace hg6:=iteF hg6
   cases hg6
   refine ⟨_,rfl,?_⟩
   refine ⟨Q0,?_⟩
   refine ⟨_,rfl,⟨⟨_,rfl,_,rfl,.inr (.inl ⟨rfl,rfl⟩)⟩,⟨_,rfl,_,rfl,.inr (.inl ⟨rfl,rfl⟩)⟩,⟨_,rfl,_,rfl,.inr (.inl ⟨rfl,rfl⟩)⟩,⟨_,rfl,_,rfl,.inr (.inl ⟨rfl,rfl⟩)⟩,⟨_,rfl,rfl⟩,Q0⟩,?_⟩
   cases hv2
   exact wt Q2 J1 rfl
  refine rt ?_
  cases h
  exact ⟨_,rfl,(Fz.t (.cons (Fz.imm rfl) (.cons Fz.v .nil)))⟩
 refine sk ?_
 refine sg ?_
 obtain ⟨hc1,h⟩:=chk_some h
 refine ⟨_,rfl,(Or.inl ⟨hc1,_,rfl,?_⟩)⟩
 refine wT [(2,.b 2 0),(3,.b 3 0),(4,.b 4 0)] [(2,.box [vi p_w.C.Id,vi p_w.C.Ver,.s (mI p_w.C.Servers),.s (mA p_w.Disks),vi (p_w.Begun+1),vi p_w.Ack,vi p_w.Read]),(3,.box [vu p_x.Do,vu p_x.Who,.v (.int .u16 p_x.N)]),(4,.box [vi (0),vi (0),.v (.slice none 0 0),.v (.slice none 0 0),vi (0),vi (0),vi (0)])] Q3 J3 rfl ?_
 refine sq ?_
 refine Ok.draw (m:=17) (MD:=⟨[]⟩) (CH:=⟨[]⟩) Tryz.tok Tryz.mixed (by kernel_rfl) ?_
 obtain ⟨x18,hx18,h⟩:=bindS h
 obtain ⟨x19,hx19,h⟩:=bindS h
 refine ⟨_,rfl,_,⟨_,rfl,rfl⟩,_,rfl,_,⟨_,rfl,rfl⟩,_,rfl,_,⟨_,rfl,rfl⟩,_,⟨_,.of_pure (w_law26N3 hx18) (LeL.refl _),rfl⟩,_,rfl,_,⟨_,rfl,rfl⟩,_,⟨_,rfl,rfl⟩,_,⟨(by decide),_,rfl,rfl⟩,_,⟨_,.of_pure (w_chainN11 hx19) (LeL.refl _),rfl⟩,_,rfl,_,rfl,_,rfl,_,rfl,_,rfl,Q0,?_⟩
 refine sg ?_
 refine ⟨_,rfl,?_⟩
 refine wT [(2,.b 2 0),(4,.b 4 0),(23,vb x19.2)] [(2,.box [vi p_w.C.Id,vi p_w.C.Ver,.s (mI p_w.C.Servers),.s (mA x19.1),vi (p_w.Begun+1),vi p_w.Ack,vi p_w.Read]),(4,.box [vi (0),vi (0),.v (.slice none 0 0),.v (.slice none 0 0),vi (0),vi (0),vi (0)])] Q3 J2 rfl ?_
 obtain ⟨v3,hv3,h⟩:=bindS h
 refine Ok.seqw ⟨Cat.tab [(2,.b 2 0),(4,.b 4 0)],[(2,.box [vi p_w.C.Id,vi p_w.C.Ver,.s (mI p_w.C.Servers),.s (mA x19.1),vi (p_w.Begun+1),vi v3,vi p_w.Read]),(4,.box [vi (0),vi (0),.v (.slice none 0 0),.v (.slice none 0 0),vi (0),vi (0),vi (0)])]⟩ ?_ ?_
 ·refine sg ?_
  refine wT [(2,.b 2 0),(4,.b 4 0),(215,vb x19.2)] [(2,.box [vi p_w.C.Id,vi p_w.C.Ver,.s (mI p_w.C.Servers),.s (mA x19.1),vi (p_w.Begun+1),vi p_w.Ack,vi p_w.Read]),(4,.box [vi (0),vi (0),.v (.slice none 0 0),.v (.slice none 0 0),vi (0),vi (0),vi (0)])] Q3 J2 rfl ?_
  refine cn 215 (x19.2) rfl hv3 (fun hb hv3=>?_) fun hb hv3=>?_
  ·refine rg ?_
   refine ⟨_,rfl,_,rfl,?_⟩
   cases hv3
   exact wt Q2 J2 rfl
  refine sk ?_
  cases hv3
  exact wt Q2 J2 rfl
 refine sg ?_
 refine ⟨_,rfl,_,rfl,?_⟩
 refine wT [(4,.b 4 0),(5,vb true)] [(4,.box [vi p_w.C.Id,vi p_w.C.Ver,.s (mI p_w.C.Servers),.s (mA x19.1),vi (p_w.Begun+1),vi v3,vi p_w.Read])] Q2 J1 rfl ?_
 refine rt ?_
 cases h
 exact ⟨_,rfl,(Fz.t (.cons (Fz.imm rfl) (.cons Fz.v .nil)))⟩
theorem w_ref26N9 {p_c} {p_disks} {p_server} {r} (h:ref26_Whole p_c p_disks p_server=some r):Pure Tryz.prog 54 [(.a [(vi p_c.Id),(vi p_c.Ver),(.s (mI p_c.Servers))]),(.s (mA p_disks)),(vi p_server)] (.t [(.s (mU r.1)),(vb r.2)]):=by
 refine po Tryz.tok 31 Tryz.func54 (by kernel_rfl) rfl rfl rfl ?_
 unfold ref26_Whole at h
 refine wE [(0,.a [vi p_c.Id,vi p_c.Ver,.s (mI p_c.Servers)]),(1,.s (mA p_disks)),(2,vi p_server)] Q3 ?_
 refine sg ?_
 refine wT [(1,.s (mA p_disks)),(2,vi p_server),(3,.b 3 0)] [(3,.box [vi p_c.Id,vi p_c.Ver,.s (mI p_c.Servers)])] Q3 J1 rfl ?_
 refine sq ?_
 refine Ok.draw2 (m:=11) (late:=[9]) (MD:=⟨[]⟩) (CH:=⟨[]⟩) Tryz.tok Tryz.mixed (by kernel_rfl) ?_
 obtain ⟨x1,hx1,h⟩:=bindS h
 obtain ⟨x2,hx2,h⟩:=bindS h
 refine ⟨_,rfl,_,rfl,_,⟨_,idx_nat hx1,_,idx_row hx1,rfl⟩,_,⟨_,rfl,rfl⟩,_,rfl,_,⟨_,rfl,rfl⟩,_,⟨_,.of_pure (w_ref25_Get hx2) (LeL.refl _),rfl⟩,_,rfl,_,rfl,_,rfl,Q0,?_⟩
 refine ⟨_,rfl,⟨⟨_,rfl,rfl⟩,Q0⟩,?_⟩
 refine wT [(3,.b 3 0),(8,.b 8 0),(9,vi x2.2)] [(3,.box [vi p_c.Id,vi p_c.Ver,.s (mI p_c.Servers)]),(8,.box [vi x2.1.Id,vi x2.1.Ver,.s (mU x2.1.Data),.s (mI x2.1.Sums)])] Q3 J2 rfl ?_
 obtain ⟨v1,hv1,h⟩:=bindS h
 refine Ok.seqw ⟨Cat.tab [(6,.s (mU x2.1.Data)),(7,vb v1)],[]⟩ ?_ ?_
 ·refine Ok.draw (m:=13) (MD:=⟨[]⟩) (CH:=⟨[]⟩) Tryz.tok Tryz.mixed (by kernel_rfl) ?_
  refine ⟨_,rfl,_,⟨_,rfl,rfl⟩,_,rfl,_,rfl,_,rfl,?_⟩
  obtain ⟨c1,hg1,hv1⟩:=bindS hv1
  refine Br.ite hg1 (fun hb hg1=>?_) fun hb hg1=>?_
  ·refine ⟨_,rfl,_,⟨_,rfl,rfl⟩,_,rfl,_,⟨_,rfl,rfl⟩,_,rfl,?_⟩
   cases hg1
   refine ⟨_,rfl,?_⟩
   refine ⟨_,rfl,_,rfl,Q0,?_⟩
   cases hv1
   exact wt Q2 Q0 rfl
  cases hg1
  refine ⟨_,rfl,?_⟩
  refine ⟨_,rfl,_,rfl,Q0,?_⟩
  cases hv1
  exact wt Q2 Q0 rfl
 refine rt ?_
 cases h
 exact (Fz.t (.cons Fz.s (.cons Fz.v .nil)))
theorem w_ref25_New {p_id} {p_ver} {p_data} {r} (h:ref25_New p_id p_ver p_data=some r):Pure Tryz.prog 64 [(vi p_id),(vi p_ver),(.s (mU p_data))] (.a [(vi r.Id),(vi r.Ver),(.s (mU r.Data)),(.s (mI r.Sums))]):=by
 refine po Tryz.tok 13 Tryz.func64 (by kernel_rfl) rfl rfl rfl ?_
 unfold ref25_New at h
 refine wE [(0,vi p_id),(1,vi p_ver),(2,.s (mU p_data))] Q3 ?_
 refine sg ?_
 refine wT [(0,vi p_id),(1,vi p_ver),(2,.s (mU p_data)),(6,.b 6 0)] [(6,.box [vi (0),vi (0),.v (.slice none 0 0),.v (.slice none 0 0)])] Q4 J1 rfl ?_
 refine sg ?_
 obtain ⟨x1,hx1,h⟩:=bindS h
 refine CallOk.call (w_ref02N1 hx1) (LeL.refl _) ?_
 refine ⟨_,rfl,?_⟩
 refine wT [(6,.b 6 0)] [(6,.box [vi p_id,vi p_ver,.s (mU p_data),.s (mI x1)])] Q1 J1 rfl ?_
 refine rt ?_
 cases h
 exact ⟨_,rfl,(Fz.imm rfl)⟩
theorem w_ref04N2 {p_p} {r} (h:ref04_Page p_p=some r):Pure Tryz.prog 117 [(.a [(vi p_p.At),(.s (mU p_p.Data))])] (vb r):=by
 refine po Tryz.tok 17 Tryz.func117 (by kernel_rfl) rfl rfl rfl ?_
 unfold ref04_Page at h
 refine wE [(0,.a [vi p_p.At,.s (mU p_p.Data)])] Q1 ?_
 refine sg ?_
 refine wT [(1,.b 1 0)] [(1,.box [vi p_p.At,.s (mU p_p.Data)])] Q1 J1 rfl ?_
 obtain ⟨v1,hv1,h⟩:=bindS h
 refine Ok.seqw ⟨Cat.tab [(2,vb v1)],[]⟩ ?_ ?_
 ·refine rg ?_
  refine ⟨_,rfl,?_⟩
  obtain ⟨c1,hg1,hv1⟩:=bindS hv1
  refine Br.ite hg1 (fun hb hg1=>?_) fun hb hg1=>?_
  ·refine ⟨_,rfl,?_⟩
   cases hg1
   obtain ⟨c2,hg2,hv1⟩:=bindS hv1
   refine Br.ite hg2 (fun hb hg2=>?_) fun hb hg2=>?_
   ·refine ⟨_,rfl,_,List.length_map _,fun _=>?_⟩
    cases hg2
    cases hv1
    exact wt Q1 Q0 rfl
   cases hg2
   cases hv1
   exact wt Q1 Q0 rfl
  cases hg1
  obtain ⟨c2,hg3,hv1⟩:=bindS hv1
  replace hg3:=iteF hg3
  cases hg3
  cases hv1
  exact wt Q1 Q0 rfl
 refine rt ?_
 cases h
 exact Fz.v
theorem w_ref04N7 {p_d} {p_at} {p_data} {r} (h:ref04_Write p_d p_at p_data=some r):Pure Tryz.prog 86 [(.a [(.s (mB p_d.Synced)),(.s (mB p_d.Loose)),(vb p_d.Down)]),(vi p_at),(.s (mU p_data))] (.t [(.a [(.s (mB r.1.Synced)),(.s (mB r.1.Loose)),(vb r.1.Down)]),(vi r.2)]):=by
 refine po Tryz.tok 38 Tryz.func86 (by kernel_rfl) rfl rfl rfl ?_
 unfold ref04_Write at h
 refine wE [(0,.a [.s (mB p_d.Synced),.s (mB p_d.Loose),vb p_d.Down]),(1,vi p_at),(2,.s (mU p_data))] Q3 ?_
 refine sg ?_
 refine wT [(1,vi p_at),(2,.s (mU p_data)),(3,.b 3 0),(6,.b 6 0)] [(3,.box [.s (mB p_d.Synced),.s (mB p_d.Loose),vb p_d.Down]),(6,.box [.v (.slice none 0 0),.v (.slice none 0 0),vb false])] Q4 J2 rfl ?_
 refine sq ?_
 refine sg ?_
 refine ⟨_,rfl,?_⟩
 refine wT [(1,vi p_at),(2,.s (mU p_data)),(3,.b 3 0),(6,.b 6 0),(12,vb p_d.Down)] [(3,.box [.s (mB p_d.Synced),.s (mB p_d.Loose),vb p_d.Down]),(6,.box [.v (.slice none 0 0),.v (.slice none 0 0),vb false])] Q5 J2 rfl ?_
 refine cn 12 (p_d.Down) rfl h (fun hb h=>?_) fun hb h=>?_
 ·refine sg ?_
  refine ⟨_,rfl,_,rfl,?_⟩
  refine wT [(6,.b 6 0),(7,vi (40))] [(6,.box [.s (mB p_d.Synced),.s (mB p_d.Loose),vb p_d.Down])] Q2 J1 rfl ?_
  refine rt ?_
  cases h
  exact ⟨_,rfl,(Fz.t (.cons (Fz.imm rfl) (.cons Fz.v .nil)))⟩
 refine sk ?_
 refine sg ?_
 refine ⟨_,rfl,?_⟩
 refine wT [(3,.b 3 0),(6,.b 6 0),(8,.b 8 0)] [(3,.box [.s (mB p_d.Synced),.s (mB p_d.Loose),vb p_d.Down]),(6,.box [.v (.slice none 0 0),.v (.slice none 0 0),vb false]),(8,.box [vi p_at,.s (mU p_data)])] Q3 J3 rfl ?_
 refine sg ?_
 obtain ⟨x1,hx1,h⟩:=bindS h
 refine ⟨_,rfl,?_⟩
 refine CallOk.call (w_ref04N2 hx1) (LeL.refl _) ?_
 refine sq ?_
 refine sg ?_
 refine wT [(3,.b 3 0),(6,.b 6 0),(8,.b 8 0),(20,vb (!x1))] [(3,.box [.s (mB p_d.Synced),.s (mB p_d.Loose),vb p_d.Down]),(6,.box [.v (.slice none 0 0),.v (.slice none 0 0),vb false]),(8,.box [vi p_at,.s (mU p_data)])] Q4 J3 rfl ?_
 refine cn 20 (!x1) rfl h (fun hb h=>?_) fun hb h=>?_
 ·refine sg ?_
  refine ⟨_,rfl,_,rfl,?_⟩
  refine wT [(6,.b 6 0),(7,vi (1))] [(6,.box [.s (mB p_d.Synced),.s (mB p_d.Loose),vb p_d.Down])] Q2 J1 rfl ?_
  refine rt ?_
  cases h
  exact ⟨_,rfl,(Fz.t (.cons (Fz.imm rfl) (.cons Fz.v .nil)))⟩
 refine sk ?_
 refine sg ?_
 refine ⟨_,rfl,_,rfl,?_⟩
 refine wT [(3,.b 3 0),(6,.b 6 0),(8,.b 8 0),(10,.b 10 0)] [(3,.box [.s (mB p_d.Synced),.s (mB p_d.Loose),vb p_d.Down]),(6,.box [.v (.slice none 0 0),.v (.slice none 0 0),vb false]),(8,.box [vi p_at,.s (mU p_data)]),(10,.box [.s (mB p_d.Synced),.v (.slice none 0 0),vb false])] Q4 J4 rfl ?_
 refine sg ?_
 obtain ⟨hc1,h⟩:=chk_some h
 refine ⟨_,rfl,_,rfl,rowsLen_map (f:=c_api_Page) (n:=2) (fun _=>rfl) p_d.Loose,app_b1 (f:=c_api_Page) (l':=p_d.Loose) hc1,_,rfl,_,rfl,?_⟩
 refine sg ?_
 obtain ⟨hc2,h⟩:=chk_some h
 refine ⟨_,rfl,_,rfl,Or.inl ⟨rowsLen_map (f:=c_api_Page) (n:=2) (fun _=>rfl) ([(⟨p_at,p_data⟩:api_Page)]),app_b2 (f:=c_api_Page) (l:=p_d.Loose) (l':=[(⟨p_at,p_data⟩:api_Page)]) hc2,_,(List.map_append (f:=c_api_Page) (l₁:=p_d.Loose) (l₂:=[(⟨p_at,p_data⟩:api_Page)])).symm,_,rfl,?_⟩⟩
 refine wT [(6,.b 6 0),(10,.b 10 0)] [(6,.box [.v (.slice none 0 0),.v (.slice none 0 0),vb false]),(10,.box [.s (mB p_d.Synced),.o 29,vb false]),(29,.own 110 2 (mB (p_d.Loose++[(⟨p_at,p_data⟩:api_Page)])))] Q2 J3 rfl ?_
 refine sg ?_
 refine ⟨_,rfl,_,rfl,?_⟩
 refine wT [(6,.b 6 0),(7,vi (0))] [(6,.box [.s (mB p_d.Synced),.o 29,vb false]),(29,.own 110 2 (mB (p_d.Loose++[(⟨p_at,p_data⟩:api_Page)])))] Q2 J2 rfl ?_
 refine rt ?_
 cases h
 exact ⟨_,rfl,(Fz.t (.cons (Fz.a (.cons Fz.s (.cons (Fz.o rfl) (.cons Fz.v .nil)))) (.cons Fz.v .nil)))⟩
theorem w_ref25_Put {p_d} {p_c} {r} (h:ref25_Put p_d p_c=some r):Pure Tryz.prog 63 [(.a [(.s (mB p_d.Synced)),(.s (mB p_d.Loose)),(vb p_d.Down)]),(.a [(vi p_c.Id),(vi p_c.Ver),(.s (mU p_c.Data)),(.s (mI p_c.Sums))])] (.t [(.a [(.s (mB r.1.Synced)),(.s (mB r.1.Loose)),(vb r.1.Down)]),(vi r.2)]):=by
 refine po Tryz.tok 18 Tryz.func63 (by kernel_rfl) rfl rfl rfl ?_
 unfold ref25_Put at h
 refine wE [(0,.a [.s (mB p_d.Synced),.s (mB p_d.Loose),vb p_d.Down]),(1,.a [vi p_c.Id,vi p_c.Ver,.s (mU p_c.Data),.s (mI p_c.Sums)])] Q2 ?_
 refine sg ?_
 refine sq ?_
 refine sg ?_
 obtain ⟨x1,hx1,h⟩:=bindS h
 refine ⟨_,rfl,?_⟩
 refine CallOk.call (w_ref25_May hx1) (LeL.refl _) ?_
 refine wT [(2,.b 2 0),(3,.b 3 0),(4,.b 4 0),(8,vb (!x1))] [(2,.box [.s (mB p_d.Synced),.s (mB p_d.Loose),vb p_d.Down]),(3,.box [vi p_c.Id,vi p_c.Ver,.s (mU p_c.Data),.s (mI p_c.Sums)]),(4,.box [.v (.slice none 0 0),.v (.slice none 0 0),vb false])] Q4 J3 rfl ?_
 refine cn 8 (!x1) rfl h (fun hb h=>?_) fun hb h=>?_
 ·refine sg ?_
  refine ⟨_,rfl,_,rfl,?_⟩
  refine wT [(4,.b 4 0),(5,vi (1))] [(4,.box [.s (mB p_d.Synced),.s (mB p_d.Loose),vb p_d.Down])] Q2 J1 rfl ?_
  refine rt ?_
  cases h
  exact ⟨_,rfl,(Fz.t (.cons (Fz.imm rfl) (.cons Fz.v .nil)))⟩
 refine sk ?_
 refine sq ?_
 refine Ok.draw (m:=8) (MD:=⟨[]⟩) (CH:=⟨[]⟩) Tryz.tok Tryz.mixed (by kernel_rfl) ?_
 obtain ⟨x2,hx2,h⟩:=bindS h
 obtain ⟨x3,hx3,h⟩:=bindS h
 refine ⟨_,⟨_,rfl,rfl⟩,_,rfl,_,⟨_,rfl,rfl⟩,_,⟨_,rfl,rfl⟩,_,⟨_,.of_pure (w_ref25N1 hx2) (LeL.refl _),rfl⟩,_,⟨_,.of_pure (w_ref04N7 hx3) (LeL.refl _),rfl⟩,_,rfl,_,rfl,Q0,_,rfl,?_⟩
 refine wT [(4,.b 4 0),(5,vi x3.2)] [(4,.box [.s (mB x3.1.Synced),.s (mB x3.1.Loose),vb x3.1.Down])] Q2 J1 rfl ?_
 refine rt ?_
 cases h
 exact ⟨_,rfl,(Fz.t (.cons (Fz.imm rfl) (.cons Fz.v .nil)))⟩
theorem wo_ref04N1 {p_l} {p_p} {r} (h:ref04_lay p_l p_p=some r):POwn Tryz.prog 88 [(.s (mB p_l)),(.a [(vi p_p.At),(.s (mU p_p.Data))])] 110 2 (mB r):=by
 refine pw Tryz.tok 52 Tryz.func88 (by kernel_rfl) rfl rfl rfl ?_
 unfold ref04_lay at h
 refine wE [(0,.s (mB p_l)),(1,.a [vi p_p.At,.s (mU p_p.Data)])] Q2 ?_
 refine sg ?_
 refine wT [(0,.s (mB p_l)),(3,.b 3 0)] [(3,.box [vi p_p.At,.s (mU p_p.Data)])] Q2 J1 rfl ?_
 refine sg ?_
 refine wT [(0,.s (mB p_l)),(3,.b 3 0),(5,.v (.slice none 0 0))] [(3,.box [vi p_p.At,.s (mU p_p.Data)])] Q3 J1 rfl ?_
 refine sg ?_
 refine wT [(0,.s (mB p_l)),(3,.b 3 0),(5,.v (.slice none 0 0)),(6,vb false)] [(3,.box [vi p_p.At,.s (mU p_p.Data)])] Q4 J1 rfl ?_
 obtain ⟨v1,hv1,h⟩:=bindS h
 refine Ok.seqw ⟨Cat.tab [(3,.b 3 0),(5,.o 29),(6,vb v1.1)],[(3,.box [vi p_p.At,.s (mU p_p.Data)]),(29,.own 110 2 (mB v1.2))]⟩ ?_ ?_
 ·refine sg ?_
  refine wT [(0,.s (mB p_l)),(3,.b 3 0),(5,.v (.slice none 0 0)),(6,vb false),(7,vi (0))] [(3,.box [vi p_p.At,.s (mU p_p.Data)])] Q5 J1 rfl ?_
  refine bl ?_
  refine Ok.loop (fun (s1:Bool×Int×(List api_Page))=>⟨Cat.tab [(0,.s (mB p_l)),(3,.b 3 0),(5,.o 29),(6,vb s1.1),(7,vi s1.2.1)],[(3,.box [vi p_p.At,.s (mU p_p.Data)]),(29,.own 110 2 (mB s1.2.2))]⟩) (ref04N18 p_l p_p) (s0:=(false,0,[])) hv1 ((Wk.own0 (t:=5) (id:=29) (E:=110) (K:=2) rfl rfl).trans (wt Q5 ⟨⟨_,rfl,.refl _⟩,⟨_,rfl,.refl _⟩,Q0⟩ rfl)) ?_
  intro s1 y1 hB1 hy1
  unfold ref04N18 at hB1
  refine sq ?_
  refine sg ?_
  refine ⟨_,List.length_map _,fun _=>?_⟩
  refine wT [(0,.s (mB p_l)),(3,.b 3 0),(5,.o 29),(6,vb s1.1),(7,vi s1.2.1),(11,vb (decide (s1.2.1 < (p_l.length:Int))))] [(3,.box [vi p_p.At,.s (mU p_p.Data)]),(29,.own 110 2 (mB s1.2.2))] Q6 J2 rfl ?_
  refine cn 11 (decide (s1.2.1 < (p_l.length:Int))) rfl hB1 (fun hb hB1=>?_) fun hb hB1=>?_
  ·refine sk ?_
   obtain ⟨v2,hv2,hB1⟩:=bindS hB1
   refine Ok.seqw ⟨Cat.tab [(0,.s (mB p_l)),(3,.b 3 0),(5,.o 29),(6,vb v2.1),(7,vi s1.2.1)],[(3,.box [vi p_p.At,.s (mU p_p.Data)]),(29,.own 110 2 (mB v2.2))]⟩ ?_ ?_
   ·refine bl ?_
    obtain ⟨v3,hv3,hv2⟩:=bindS hv2
    refine Ok.seqw ⟨Cat.tab [(0,.s (mB p_l)),(3,.b 3 0),(5,.o 29),(6,vb v3.1),(7,vi s1.2.1)],[(3,.box [vi p_p.At,.s (mU p_p.Data)]),(29,.own 110 2 (mB v3.2))]⟩ ?_ ?_
    ·obtain ⟨v4,hv4,hv3⟩:=bindS hv3
     refine Ok.seqw ⟨Cat.tab [(0,.s (mB p_l)),(3,.b 3 0),(5,.o 29),(6,vb s1.1),(7,vi s1.2.1),(25,vb v4)],[(3,.box [vi p_p.At,.s (mU p_p.Data)]),(29,.own 110 2 (mB s1.2.2))]⟩ ?_ ?_
     ·refine Ok.draw (m:=12) (MD:=⟨[]⟩) (CH:=⟨[]⟩) Tryz.tok Tryz.mixed (by kernel_rfl) ?_
      refine ⟨_,rfl,_,rfl,_,rfl,?_⟩
      obtain ⟨c1,hg1,hv4⟩:=bindS hv4
      refine Br.ite hg1 (fun hb hg1=>?_) fun hb hg1=>?_
      ·obtain ⟨x1,hx1,hg1⟩:=bindS hg1
       refine ⟨_,rfl,_,rfl,_,⟨_,idx_nat hx1,_,idx_row hx1,rfl⟩,_,rfl,_,⟨_,rfl,rfl⟩,_,rfl,_,⟨_,rfl,rfl⟩,_,rfl,?_⟩
       cases hg1
       refine ⟨_,rfl,?_⟩
       refine ⟨Q0,?_⟩
       cases hv4
       exact wt Q6 J2 rfl
      cases hg1
      refine ⟨_,rfl,?_⟩
      refine ⟨Q0,?_⟩
      cases hv4
      exact wt Q6 J2 rfl
     refine cn 25 (v4) rfl hv3 (fun hb hv3=>?_) fun hb hv3=>?_
     ·refine sg ?_
      obtain ⟨hc1,hv3⟩:=chk_some hv3
      refine ⟨_,rfl,Or.inl ⟨rowsLen_map (f:=c_api_Page) (n:=2) (fun _=>rfl) ([p_p]),app_b2 (f:=c_api_Page) (l:=s1.2.2) (l':=[p_p]) hc1,_,(List.map_append (f:=c_api_Page) (l₁:=s1.2.2) (l₂:=[p_p])).symm,?_⟩⟩
      refine wT [(0,.s (mB p_l)),(3,.b 3 0),(5,.o 29),(7,vi s1.2.1)] [(3,.box [vi p_p.At,.s (mU p_p.Data)]),(29,.own 110 2 (mB (s1.2.2++[p_p])))] Q4 J2 rfl ?_
      refine rg ?_
      cases hv3
      exact wt Q5 J2 rfl
     refine sk ?_
     cases hv3
     exact wt Q5 J2 rfl
    refine sq ?_
    refine Ok.draw (m:=8) (MD:=⟨[]⟩) (CH:=⟨[]⟩) Tryz.tok Tryz.mixed (by kernel_rfl) ?_
    obtain ⟨x2,hx2,hv2⟩:=bindS hv2
    refine ⟨_,rfl,_,rfl,_,⟨_,idx_nat hx2,_,idx_row hx2,rfl⟩,_,rfl,_,⟨_,rfl,rfl⟩,_,rfl,_,⟨_,rfl,rfl⟩,_,rfl,Q0,?_⟩
    refine wT [(0,.s (mB p_l)),(3,.b 3 0),(5,.o 29),(6,vb v3.1),(7,vi s1.2.1),(37,vb (x2.At != p_p.At))] [(3,.box [vi p_p.At,.s (mU p_p.Data)]),(29,.own 110 2 (mB v3.2))] Q6 J2 rfl ?_
    refine cn 37 (x2.At != p_p.At) rfl hv2 (fun hb hv2=>?_) fun hb hv2=>?_
    ·refine rg ?_
     obtain ⟨x3,hx3,hv2⟩:=bindS hv2
     obtain ⟨hc2,hv2⟩:=chk_some hv2
     refine ⟨_,idx_nat hx3,_,idx_row hx3,_,rfl,Or.inl ⟨rowsLen_map (f:=c_api_Page) (n:=2) (fun _=>rfl) ([x3]),app_b2 (f:=c_api_Page) (l:=v3.2) (l':=[x3]) hc2,_,(List.map_append (f:=c_api_Page) (l₁:=v3.2) (l₂:=[x3])).symm,?_⟩⟩
     cases hv2
     exact wt Q5 J2 rfl
    refine sk ?_
    cases hv2
    exact wt Q5 J2 rfl
   refine rg ?_
   obtain ⟨hc3,hB1⟩:=chk_some hB1
   refine (Or.inl ⟨hc3,?_⟩)
   exact ⟨_,sj hB1,wt Q5 J2 rfl⟩
  refine xt ?_
  have hB1:=out_ret hB1 hy1
  cases hB1
  exact wt Q3 J2 rfl
 obtain ⟨v5,hv5,h⟩:=bindS h
 refine Ok.seqw ⟨Cat.tab [(5,.o 29)],[(29,.own 110 2 (mB v5))]⟩ ?_ ?_
 ·refine sg ?_
  refine wT [(3,.b 3 0),(5,.o 29),(46,vb (!v1.1))] [(3,.box [vi p_p.At,.s (mU p_p.Data)]),(29,.own 110 2 (mB v1.2))] Q3 J2 rfl ?_
  refine cn 46 (!v1.1) rfl hv5 (fun hb hv5=>?_) fun hb hv5=>?_
  ·refine rg ?_
   obtain ⟨hc4,hv5⟩:=chk_some hv5
   refine ⟨_,rfl,Or.inl ⟨rowsLen_map (f:=c_api_Page) (n:=2) (fun _=>rfl) ([p_p]),app_b2 (f:=c_api_Page) (l:=v1.2) (l':=[p_p]) hc4,_,(List.map_append (f:=c_api_Page) (l₁:=v1.2) (l₂:=[p_p])).symm,?_⟩⟩
   cases hv5
   exact wt Q1 J1 rfl
  refine sk ?_
  cases hv5
  exact wt Q1 J1 rfl
 refine sg ?_
 refine wT [(4,.o 29)] [(29,.own 110 2 (mB v5))] Q1 J1 rfl ?_
 refine rt ?_
 cases h
 exact (.inr ⟨_,rfl,rfl⟩)
theorem w_ref04_lay {p_l} {p_p} {r} (h:ref04_lay p_l p_p=some r):Pure Tryz.prog 88 [(.s (mB p_l)),(.a [(vi p_p.At),(.s (mU p_p.Data))])] (.s (mB r)):=(wo_ref04N1 h).pure
theorem w_ref04N6 {p_d} {r} (h:ref04_Sync p_d=some r):Pure Tryz.prog 65 [(.a [(.s (mB p_d.Synced)),(.s (mB p_d.Loose)),(vb p_d.Down)])] (.t [(.a [(.s (mB r.1.Synced)),(.s (mB r.1.Loose)),(vb r.1.Down)]),(vi r.2)]):=by
 refine po Tryz.tok 29 Tryz.func65 (by kernel_rfl) rfl rfl rfl ?_
 unfold ref04_Sync at h
 refine wE [(0,.a [.s (mB p_d.Synced),.s (mB p_d.Loose),vb p_d.Down])] Q1 ?_
 refine sg ?_
 refine wT [(1,.b 1 0),(2,.b 2 0)] [(1,.box [.s (mB p_d.Synced),.s (mB p_d.Loose),vb p_d.Down]),(2,.box [.v (.slice none 0 0),.v (.slice none 0 0),vb false])] Q2 J2 rfl ?_
 refine sq ?_
 refine sg ?_
 refine ⟨_,rfl,?_⟩
 refine wT [(1,.b 1 0),(2,.b 2 0),(7,vb p_d.Down)] [(1,.box [.s (mB p_d.Synced),.s (mB p_d.Loose),vb p_d.Down]),(2,.box [.v (.slice none 0 0),.v (.slice none 0 0),vb false])] Q3 J2 rfl ?_
 refine cn 7 (p_d.Down) rfl h (fun hb h=>?_) fun hb h=>?_
 ·refine sg ?_
  refine ⟨_,rfl,_,rfl,?_⟩
  refine wT [(2,.b 2 0),(3,vi (40))] [(2,.box [.s (mB p_d.Synced),.s (mB p_d.Loose),vb p_d.Down])] Q2 J1 rfl ?_
  refine rt ?_
  cases h
  exact ⟨_,rfl,(Fz.t (.cons (Fz.imm rfl) (.cons Fz.v .nil)))⟩
 refine sk ?_
 refine sg ?_
 refine ⟨_,rfl,_,rfl,?_⟩
 refine wT [(1,.b 1 0),(2,.b 2 0),(4,.b 4 0)] [(1,.box [.s (mB p_d.Synced),.s (mB p_d.Loose),vb p_d.Down]),(2,.box [.v (.slice none 0 0),.v (.slice none 0 0),vb false]),(4,.box [.s (mB p_d.Synced),.v (.slice none 0 0),vb false])] Q3 J3 rfl ?_
 obtain ⟨v1,hv1,h⟩:=bindS h
 refine Ok.seqw ⟨Cat.tab [(2,.b 2 0),(4,.b 4 0)],[(2,.box [.v (.slice none 0 0),.v (.slice none 0 0),vb false]),(4,.box [.s (mB v1),.v (.slice none 0 0),vb false])]⟩ ?_ ?_
 ·refine sg ?_
  refine wT [(1,.b 1 0),(2,.b 2 0),(4,.b 4 0),(5,vi (0))] [(1,.box [.s (mB p_d.Synced),.s (mB p_d.Loose),vb p_d.Down]),(2,.box [.v (.slice none 0 0),.v (.slice none 0 0),vb false]),(4,.box [.s (mB p_d.Synced),.v (.slice none 0 0),vb false])] Q4 J3 rfl ?_
  refine bl ?_
  refine Ok.loop (fun (s1:Int×(List api_Page))=>⟨Cat.tab [(1,.b 1 0),(2,.b 2 0),(4,.b 4 0),(5,vi s1.1)],[(1,.box [.s (mB p_d.Synced),.s (mB p_d.Loose),vb p_d.Down]),(2,.box [.v (.slice none 0 0),.v (.slice none 0 0),vb false]),(4,.box [.s (mB s1.2),.v (.slice none 0 0),vb false])]⟩) (ref04N16 p_d) (s0:=(0,p_d.Synced)) hv1 (wt Q4 ⟨⟨_,rfl,.refl _⟩,⟨_,rfl,.refl _⟩,⟨_,rfl,.refl _⟩,Q0⟩ rfl) ?_
  intro s1 y1 hB1 hy1
  unfold ref04N16 at hB1
  refine sq ?_
  refine sg ?_
  refine ⟨_,rfl,_,List.length_map _,fun _=>?_⟩
  refine cn 16 (decide (s1.1 < (p_d.Loose.length:Int))) rfl hB1 (fun hb hB1=>?_) fun hb hB1=>?_
  ·refine sk ?_
   refine sq ?_
   refine bl ?_
   refine Ok.draw (m:=9) (MD:=⟨[]⟩) (CH:=⟨[]⟩) Tryz.tok Tryz.mixed (by kernel_rfl) ?_
   obtain ⟨x1,hx1,hB1⟩:=bindS hB1
   obtain ⟨x2,hx2,hB1⟩:=bindS hB1
   refine ⟨_,rfl,_,⟨_,rfl,rfl⟩,_,rfl,_,⟨_,rfl,rfl⟩,_,rfl,_,⟨_,idx_nat hx1,_,idx_row hx1,rfl⟩,_,⟨_,rfl,rfl⟩,_,⟨_,.of_pure (w_ref04_lay hx2) (LeL.refl _),rfl⟩,_,rfl,Q0,_,rfl,?_⟩
   refine wT [(1,.b 1 0),(2,.b 2 0),(4,.b 4 0),(5,vi s1.1)] [(1,.box [.s (mB p_d.Synced),.s (mB p_d.Loose),vb p_d.Down]),(2,.box [.v (.slice none 0 0),.v (.slice none 0 0),vb false]),(4,.box [.s (mB x2),.v (.slice none 0 0),vb false])] Q4 J3 rfl ?_
   refine rg ?_
   obtain ⟨hc1,hB1⟩:=chk_some hB1
   refine (Or.inl ⟨hc1,?_⟩)
   exact ⟨_,sj hB1,wt Q4 J3 rfl⟩
  refine xt ?_
  have hB1:=out_ret hB1 hy1
  cases hB1
  exact wt Q2 J2 rfl
 refine sg ?_
 refine ⟨_,rfl,_,rfl,?_⟩
 refine wT [(2,.b 2 0),(3,vi (0))] [(2,.box [.s (mB v1),.v (.slice none 0 0),vb false])] Q2 J1 rfl ?_
 refine rt ?_
 cases h
 exact ⟨_,rfl,(Fz.t (.cons (Fz.a (.cons Fz.s (.cons Fz.nil (.cons Fz.v .nil)))) (.cons Fz.v .nil)))⟩
theorem wo_ref26N2 {p_c} {p_disks} {p_server} {p_ver} {p_data} {r} (h:ref26_Lay p_c p_disks p_server p_ver p_data=some r):POwn Tryz.prog 41 [(.a [(vi p_c.Id),(vi p_c.Ver),(.s (mI p_c.Servers))]),(.s (mA p_disks)),(vi p_server),(vi p_ver),(.s (mU p_data))] 29 3 (mA r):=by
 refine pw Tryz.tok 56 Tryz.func41 (by kernel_rfl) rfl rfl rfl ?_
 unfold ref26_Lay at h
 refine wE [(0,.a [vi p_c.Id,vi p_c.Ver,.s (mI p_c.Servers)]),(1,.s (mA p_disks)),(2,vi p_server),(3,vi p_ver),(4,.s (mU p_data))] Q5 ?_
 refine sg ?_
 refine wT [(1,.s (mA p_disks)),(2,vi p_server),(3,vi p_ver),(4,.s (mU p_data)),(5,.b 5 0)] [(5,.box [vi p_c.Id,vi p_c.Ver,.s (mI p_c.Servers)])] Q5 J1 rfl ?_
 refine sg ?_
 refine wT [(1,.s (mA p_disks)),(2,vi p_server),(3,vi p_ver),(4,.s (mU p_data)),(5,.b 5 0),(11,.v (.slice none 0 0))] [(5,.box [vi p_c.Id,vi p_c.Ver,.s (mI p_c.Servers)])] Q6 J1 rfl ?_
 obtain ⟨v1,hv1,h⟩:=bindS h
 refine Ok.seqw ⟨Cat.tab [(11,.o 32)],[(32,.own 29 3 (mA v1))]⟩ ?_ ?_
 ·refine sg ?_
  refine wT [(1,.s (mA p_disks)),(2,vi p_server),(3,vi p_ver),(4,.s (mU p_data)),(5,.b 5 0),(11,.v (.slice none 0 0)),(12,vi (0))] [(5,.box [vi p_c.Id,vi p_c.Ver,.s (mI p_c.Servers)])] Q7 J1 rfl ?_
  refine bl ?_
  refine Ok.loop (fun (s1:Int×(List api_Disk))=>⟨Cat.tab [(1,.s (mA p_disks)),(2,vi p_server),(3,vi p_ver),(4,.s (mU p_data)),(5,.b 5 0),(11,.o 32),(12,vi s1.1)],[(5,.box [vi p_c.Id,vi p_c.Ver,.s (mI p_c.Servers)]),(32,.own 29 3 (mA s1.2))]⟩) (ref26N19 p_disks p_server p_c p_ver p_data) (s0:=(0,[])) hv1 ((Wk.own0 (t:=11) (id:=32) (E:=29) (K:=3) rfl rfl).trans (wt Q7 ⟨⟨_,rfl,.refl _⟩,⟨_,rfl,.refl _⟩,Q0⟩ rfl)) ?_
  intro s1 y1 hB1 hy1
  unfold ref26N19 at hB1
  refine sq ?_
  refine sg ?_
  refine ⟨_,List.length_map _,fun _=>?_⟩
  refine cn 20 (decide (s1.1 < (p_disks.length:Int))) rfl hB1 (fun hb hB1=>?_) fun hb hB1=>?_
  ·refine sk ?_
   obtain ⟨v2,hv2,hB1⟩:=bindS hB1
   refine Ok.seqw ⟨Cat.tab [(1,.s (mA p_disks)),(2,vi p_server),(3,vi p_ver),(4,.s (mU p_data)),(5,.b 5 0),(11,.o 32),(12,vi s1.1)],[(5,.box [vi p_c.Id,vi p_c.Ver,.s (mI p_c.Servers)]),(32,.own 29 3 (mA v2))]⟩ ?_ ?_
   ·refine bl ?_
    refine sq ?_
    refine sg ?_
    refine wT [(1,.s (mA p_disks)),(2,vi p_server),(3,vi p_ver),(4,.s (mU p_data)),(5,.b 5 0),(11,.o 32),(12,vi s1.1),(25,vb (s1.1 != p_server))] [(5,.box [vi p_c.Id,vi p_c.Ver,.s (mI p_c.Servers)]),(32,.own 29 3 (mA s1.2))] Q8 J2 rfl ?_
    refine cn 25 (s1.1 != p_server) rfl hv2 (fun hb hv2=>?_) fun hb hv2=>?_
    ·refine sg ?_
     obtain ⟨x1,hx1,hv2⟩:=bindS hv2
     obtain ⟨hc1,hv2⟩:=chk_some hv2
     refine ⟨_,idx_nat hx1,_,idx_row hx1,_,rfl,Or.inl ⟨rowsLen_map (f:=c_api_Disk) (n:=3) (fun _=>rfl) ([x1]),app_b2 (f:=c_api_Disk) (l:=s1.2) (l':=[x1]) hc1,_,(List.map_append (f:=c_api_Disk) (l₁:=s1.2) (l₂:=[x1])).symm,?_⟩⟩
     refine wT [(1,.s (mA p_disks)),(2,vi p_server),(3,vi p_ver),(4,.s (mU p_data)),(5,.b 5 0),(11,.o 32),(12,vi s1.1)] [(5,.box [vi p_c.Id,vi p_c.Ver,.s (mI p_c.Servers)]),(32,.own 29 3 (mA (s1.2++[x1])))] Q7 J2 rfl ?_
     refine xt ?_
     cases hv2
     exact wt Q7 J2 rfl
    refine sk ?_
    refine sq ?_
    refine Ok.draw2 (m:=14) (late:=[12]) (MD:=⟨[]⟩) (CH:=⟨[]⟩) Tryz.tok Tryz.mixed (by kernel_rfl) ?_
    obtain ⟨x2,hx2,hv2⟩:=bindS hv2
    obtain ⟨x3,hx3,hv2⟩:=bindS hv2
    obtain ⟨x4,hx4,hv2⟩:=bindS hv2
    refine ⟨_,rfl,_,rfl,_,⟨_,idx_nat hx2,_,idx_row hx2,rfl⟩,_,⟨_,rfl,rfl⟩,_,rfl,_,⟨_,rfl,rfl⟩,_,rfl,_,rfl,_,⟨_,.of_pure (w_ref25_New hx3) (LeL.refl _),rfl⟩,_,⟨_,.of_pure (w_ref25_Put hx4) (LeL.refl _),rfl⟩,_,rfl,_,rfl,_,rfl,Q0,?_⟩
    refine ⟨_,rfl,⟨⟨_,rfl,rfl⟩,Q0⟩,?_⟩
    refine wT [(1,.s (mA p_disks)),(2,vi p_server),(3,vi p_ver),(4,.s (mU p_data)),(5,.b 5 0),(11,.o 32),(12,vi s1.1),(13,.b 13 0)] [(5,.box [vi p_c.Id,vi p_c.Ver,.s (mI p_c.Servers)]),(32,.own 29 3 (mA s1.2)),(13,.box [.s (mB x4.1.Synced),.s (mB x4.1.Loose),vb x4.1.Down])] Q8 J3 rfl ?_
    refine sg ?_
    obtain ⟨x5,hx5,hv2⟩:=bindS hv2
    refine ⟨_,rfl,?_⟩
    refine CallOk.call (w_ref04N6 hx5) (LeL.refl _) ?_
    refine ⟨_,rfl,?_⟩
    refine rg ?_
    obtain ⟨hc2,hv2⟩:=chk_some hv2
    refine ⟨_,rfl,Or.inl ⟨rowsLen_map (f:=c_api_Disk) (n:=3) (fun _=>rfl) ([x5.1]),app_b2 (f:=c_api_Disk) (l:=s1.2) (l':=[x5.1]) hc2,_,(List.map_append (f:=c_api_Disk) (l₁:=s1.2) (l₂:=[x5.1])).symm,?_⟩⟩
    cases hv2
    exact wt Q7 J2 rfl
   refine rg ?_
   obtain ⟨hc3,hB1⟩:=chk_some hB1
   refine (Or.inl ⟨hc3,?_⟩)
   exact ⟨_,sj hB1,wt Q7 J2 rfl⟩
  refine xt ?_
  have hB1:=out_ret hB1 hy1
  cases hB1
  exact wt Q1 J1 rfl
 refine sg ?_
 refine wT [(10,.o 32)] [(32,.own 29 3 (mA v1))] Q1 J1 rfl ?_
 refine rt ?_
 cases h
 exact (.inr ⟨_,rfl,rfl⟩)
theorem w_ref26_Lay {p_c} {p_disks} {p_server} {p_ver} {p_data} {r} (h:ref26_Lay p_c p_disks p_server p_ver p_data=some r):Pure Tryz.prog 41 [(.a [(vi p_c.Id),(vi p_c.Ver),(.s (mI p_c.Servers))]),(.s (mA p_disks)),(vi p_server),(vi p_ver),(.s (mU p_data))] (.s (mA r)):=(wo_ref26N2 h).pure
end Go.Proofs
