/- The walks of this seat beside the plain programs, part 0. No condition. -/
import Derived.Test.YtaaaipgdnofafaaGreatXChainTellsEn
namespace Go.Proofs
set_option linter.all false
open Go Go.Cat
variable [M:Mono]
set_option maxRecDepth 100000
theorem sg [R : Rnds] {n : Nat} {st : ASt} {Q : Exit → ASt → Prop} {id : Nat} {ops : Array Oper} {y : Code} (h : wpo Tryz.prog (lk Tryz.tl) n ops ops.toList st (nx Tryz.prog n y Q .normal)) : Ok Tryz.prog n (.seq (.region id ops false) y) st Q := Sg Tryz.tok h
theorem rg [R : Rnds] {n : Nat} {st : ASt} {Q : Exit → ASt → Prop} {id : Nat} {ops : Array Oper} (h : wpo Tryz.prog (lk Tryz.tl) n ops ops.toList st (Q .normal)) : Ok Tryz.prog n (.region id ops false) st Q := Ok.region Tryz.tok h
abbrev mI := List.map Go.Cat.encI
abbrev mU := List.map cU8
abbrev mA := List.map c_api_Disk
abbrev mB := List.map c_api_Page
abbrev mC := List.map cL_cU8
abbrev mD := List.map cL_c_api_Page
abbrev mE := List.map c_law26_Act
theorem w_disk_New {r} (h:disk_New=some r):Pure Tryz.prog 35 [] (.a [(.s (mB r.Synced)),(.s (mB r.Loose)),(vb r.Down)]):=by
 refine po Tryz.tok 2 Tryz.func35 (by kernel_rfl) rfl rfl rfl ?_
 unfold disk_New at h
 refine wE [] Q0 ?_
 refine sg ?_
 refine wT [(0,.b 0 0)] [(0,.box [.v (.slice none 0 0),.v (.slice none 0 0),vb false])] Q1 J1 rfl ?_
 refine sg ?_
 refine ⟨_,rfl,?_⟩
 refine wT [(0,.b 0 0)] [(0,.box [.v (.slice none 0 0),.v (.slice none 0 0),vb false])] Q1 J1 rfl ?_
 refine rt ?_
 cases h
 exact ⟨_,rfl,(Fz.a (.cons Fz.nil (.cons Fz.nil (.cons Fz.v .nil))))⟩
theorem wo_slicesN4 {p_s} {r} (h:slicesN7 p_s=some r):POwn Tryz.prog 37 [(.s (mI p_s))] 3 1 (mI r):=by
 refine pw Tryz.tok 8 Tryz.func37 (by kernel_rfl) rfl rfl rfl ?_
 unfold slicesN7 at h
 refine wE [(0,.s (mI p_s))] Q1 ?_
 refine sg ?_
 refine wE [(0,.s (mI p_s))] Q1 ?_
 refine sq ?_
 refine sg ?_
 intro b1 hb1
 have h:=anyOf_some h b1 (fun e=>List.map_eq_nil_iff.1 (hb1 e))
 refine wE [(0,.s (mI p_s)),(4,vb b1)] Q2 ?_
 refine cn 4 (b1) rfl h (fun hb h=>?_) fun hb h=>?_
 ·refine sg ?_
  refine wE [(2,.v (.slice none 0 0))] Q1 ?_
  refine rt ?_
  cases h
  exact (.inl ⟨rfl,rfl⟩)
 refine sk ?_
 refine sg ?_
 obtain ⟨hc1,h⟩:=chk_some h
 refine Or.inr ⟨rowsLen_map (f:=Go.Cat.encI) (n:=1) (fun _=>rfl) p_s,app_b2 (f:=Go.Cat.encI) (l:=([]:List Int)) (l':=p_s) hc1,_,(List.map_append (f:=Go.Cat.encI) (l₁:=([]:List Int)) (l₂:=p_s)).symm,?_⟩
 refine wT [(2,.o 5)] [(5,.own 3 1 (mI (([]:List Int)++p_s)))] Q1 J1 rfl ?_
 refine rt ?_
 cases h
 exact (.inr ⟨_,rfl,rfl⟩)
theorem w_slicesN2 {p_s} {r} (h:slicesN7 p_s=some r):Pure Tryz.prog 37 [(.s (mI p_s))] (.s (mI r)):=(wo_slicesN4 h).pure
theorem w_slicesN12 {p_s} {p_v} {r} (h:slicesN75 p_s p_v=some r):Pure Tryz.prog 55 [(.s (mI p_s)),(vi p_v)] (vi r):=by
 refine po Tryz.tok 19 Tryz.func55 (by kernel_rfl) rfl rfl rfl ?_
 unfold slicesN75 at h
 refine wE [(0,.s (mI p_s)),(1,vi p_v)] Q2 ?_
 refine sg ?_
 refine wE [(0,.s (mI p_s)),(1,vi p_v)] Q2 ?_
 refine Ok.seqj (fun v1=>⟨Cat.tab [],[]⟩) (fun v1=>slicesN79 v1=some r) ?_ ?_
 ·refine sg ?_
  refine ⟨_,List.length_map _,fun _=>?_⟩
  refine wE [(0,.s (mI p_s)),(1,vi p_v),(7,vi (p_s.length:Int)),(8,vi (0))] Q4 ?_
  refine bl ?_
  refine Ok.loop (fun (s1:Int)=>⟨Cat.tab [(0,.s (mI p_s)),(1,vi p_v),(7,vi (p_s.length:Int)),(8,vi s1)],[]⟩) (slicesN77 p_s p_v) (s0:=0) h (wt Q4 Q0 rfl) ?_
  intro s1 y1 hB1 hy1
  unfold slicesN77 at hB1
  refine sg ?_
  refine wE [(0,.s (mI p_s)),(1,vi p_v),(7,vi (p_s.length:Int)),(8,vi s1),(9,vb (decide (s1 < (p_s.length:Int))))] Q5 ?_
  refine sq ?_
  refine cn 9 (decide (s1 < (p_s.length:Int))) rfl hB1 (fun hb hB1=>?_) fun hb hB1=>?_
  ·refine sk ?_
   refine sq ?_
   refine bl ?_
   refine sg ?_
   refine wE [(0,.s (mI p_s)),(1,vi p_v),(5,vi s1),(7,vi (p_s.length:Int)),(8,vi s1)] Q5 ?_
   refine sg ?_
   obtain ⟨x1,hx1,hB1⟩:=bindS hB1
   refine ⟨_,idx_nat hx1,_,idx_row hx1,_,rfl,?_⟩
   refine wE [(0,.s (mI p_s)),(1,vi p_v),(5,vi s1),(7,vi (p_s.length:Int)),(8,vi s1),(16,vb (p_v == x1))] Q6 ?_
   refine cn 16 (p_v == x1) rfl hB1 (fun hb hB1=>?_) fun hb hB1=>?_
   ·refine sg ?_
    refine wE [(4,vi s1)] Q1 ?_
    refine rt ?_
    have hB1:=out_ret hB1 hy1
    cases hB1
    exact Fz.v
   refine sk ?_
   refine rg ?_
   obtain ⟨hc1,hB1⟩:=chk_some hB1
   refine (Or.inl ⟨hc1,?_⟩)
   exact ⟨_,sj hB1,wt Q4 Q0 rfl⟩
  refine xt ?_
  have hB1:=out_ret hB1 hy1
  exact ⟨_,hB1,wt Q0 Q0 rfl⟩
 intro v1 h
 unfold slicesN79 at h
 refine sg ?_
 refine wE [(4,vi (-1))] Q1 ?_
 refine rt ?_
 cases h
 exact Fz.v
theorem w_slicesN6 {p_s} {p_v} {r} (h:slicesN33 p_s p_v=some r):Pure Tryz.prog 43 [(.s (mI p_s)),(vi p_v)] (vb r):=by
 refine po Tryz.tok 9 Tryz.func43 (by kernel_rfl) rfl rfl rfl ?_
 unfold slicesN33 at h
 refine wE [(0,.s (mI p_s)),(1,vi p_v)] Q2 ?_
 refine sg ?_
 refine wE [(0,.s (mI p_s)),(1,vi p_v)] Q2 ?_
 refine sg ?_
 obtain ⟨x1,hx1,h⟩:=bindS h
 refine CallOk.call (w_slicesN12 hx1) (LeL.refl _) ?_
 refine wE [(4,vb (decide (x1≥0)))] Q1 ?_
 refine rt ?_
 cases h
 exact Fz.v
theorem w_chainN10 {p_c} {p_disks} {r} (h:chain_Right p_c p_disks=some r):Pure Tryz.prog 14 [(.a [(vi p_c.Id),(vi p_c.Ver),(.s (mI p_c.Servers))]),(.s (mA p_disks))] (vb r):=by
 refine po Tryz.tok 62 Tryz.func14 (by kernel_rfl) rfl rfl rfl ?_
 unfold chain_Right at h
 refine wE [(0,.a [vi p_c.Id,vi p_c.Ver,.s (mI p_c.Servers)]),(1,.s (mA p_disks))] Q2 ?_
 refine sg ?_
 refine wT [(1,.s (mA p_disks)),(2,.b 2 0)] [(2,.box [vi p_c.Id,vi p_c.Ver,.s (mI p_c.Servers)])] Q2 J1 rfl ?_
 refine Ok.seqj (fun v1=>⟨Cat.tab [(2,.b 2 0)],[(2,.box [vi p_c.Id,vi p_c.Ver,.s (mI p_c.Servers)])]⟩) (fun v1=>chainN21 p_c v1=some r) ?_ ?_
 ·refine sg ?_
  refine ⟨_,rfl,_,List.length_map _,fun _=>?_⟩
  refine wT [(1,.s (mA p_disks)),(2,.b 2 0),(8,.s (mI p_c.Servers)),(9,vi (p_c.Servers.length:Int)),(10,vi (0))] [(2,.box [vi p_c.Id,vi p_c.Ver,.s (mI p_c.Servers)])] Q5 J1 rfl ?_
  refine bl ?_
  refine Ok.loop (fun (s1:Int)=>⟨Cat.tab [(1,.s (mA p_disks)),(2,.b 2 0),(8,.s (mI p_c.Servers)),(9,vi (p_c.Servers.length:Int)),(10,vi s1)],[(2,.box [vi p_c.Id,vi p_c.Ver,.s (mI p_c.Servers)])]⟩) (chainN19 p_c p_disks) (s0:=0) h (wt Q5 ⟨⟨_,rfl,.refl _⟩,Q0⟩ rfl) ?_
  intro s1 y1 hB1 hy1
  unfold chainN19 at hB1
  refine sg ?_
  refine sq ?_
  refine cn 11 (decide (s1 < (p_c.Servers.length:Int))) rfl hB1 (fun hb hB1=>?_) fun hb hB1=>?_
  ·refine sk ?_
   refine sq ?_
   refine bl ?_
   refine sg ?_
   obtain ⟨x1,hx1,hB1⟩:=bindS hB1
   refine ⟨_,idx_nat hx1,_,idx_row hx1,_,rfl,?_⟩
   refine wT [(1,.s (mA p_disks)),(2,.b 2 0),(5,vi s1),(6,vi x1),(8,.s (mI p_c.Servers)),(9,vi (p_c.Servers.length:Int)),(10,vi s1)] [(2,.box [vi p_c.Id,vi p_c.Ver,.s (mI p_c.Servers)])] Q7 J1 rfl ?_
   obtain ⟨v2,hv2,hB1⟩:=bindS hB1
   refine Ok.seqw ⟨Cat.tab [(1,.s (mA p_disks)),(2,.b 2 0),(8,.s (mI p_c.Servers)),(9,vi (p_c.Servers.length:Int)),(10,vi s1),(30,vb v2)],[(2,.box [vi p_c.Id,vi p_c.Ver,.s (mI p_c.Servers)])]⟩ ?_ ?_
   ·refine rg ?_
    obtain ⟨c1,hg1,hv2⟩:=bindS hv2
    refine Br.itf hg1 (fun hb hg1=>?_) fun hb hg1=>?_
    ·cases hg1
     obtain ⟨c2,hg2,hv2⟩:=bindS hv2
     replace hg2:=iteT hg2
     cases hg2
     cases hv2
     exact wt Q6 J1 rfl
    refine ⟨_,List.length_map _,fun _=>?_⟩
    cases hg1
    obtain ⟨c2,hg3,hv2⟩:=bindS hv2
    refine Br.itf hg3 (fun hb hg3=>?_) fun hb hg3=>?_
    ·cases hg3
     cases hv2
     exact wt Q6 J1 rfl
    obtain ⟨hc1,hg3⟩:=chk_some hg3
    obtain ⟨x2,hx2,hg3⟩:=bindS hg3
    refine ⟨_,rfl,_,sl_nat hc1.1,Nat.zero_le _,sl_len hc1,rowsK (f:=Go.Cat.encI) (K:=1) (fun _=>rfl) p_c.Servers,_,sl_take _ _ _,?_⟩
    refine CallOk.call (w_slicesN6 hx2) (LeL.refl _) ?_
    cases hg3
    cases hv2
    exact wt Q6 J1 rfl
   refine cn 30 (v2) rfl hB1 (fun hb hB1=>?_) fun hb hB1=>?_
   ·refine sg ?_
    refine wE [(4,vb false)] Q1 ?_
    refine rt ?_
    have hB1:=out_ret hB1 hy1
    cases hB1
    exact Fz.v
   refine sk ?_
   refine rg ?_
   obtain ⟨hc2,hB1⟩:=chk_some hB1
   refine (Or.inl ⟨hc2,?_⟩)
   exact ⟨_,sj hB1,wt Q5 J1 rfl⟩
  refine xt ?_
  have hB1:=out_ret hB1 hy1
  exact ⟨_,hB1,wt Q1 ⟨⟨_,rfl,.refl _⟩,Q0⟩ rfl⟩
 intro v1 h
 unfold chainN21 at h
 obtain ⟨v3,hv3,h⟩:=bindS h
 refine Ok.seqw ⟨Cat.tab [(4,vb v3)],[]⟩ ?_ ?_
 ·refine rg ?_
  refine ⟨_,rfl,?_⟩
  obtain ⟨c3,hg4,hv3⟩:=bindS hv3
  refine Br.ite hg4 (fun hb hg4=>?_) fun hb hg4=>?_
  ·refine ⟨_,rfl,?_⟩
   cases hg4
   obtain ⟨c4,hg5,hv3⟩:=bindS hv3
   refine Br.ite hg5 (fun hb hg5=>?_) fun hb hg5=>?_
   ·refine ⟨_,rfl,?_⟩
    cases hg5
    obtain ⟨c5,hg6,hv3⟩:=bindS hv3
    refine Br.ite hg6 (fun hb hg6=>?_) fun hb hg6=>?_
    ·refine ⟨_,rfl,?_⟩
     cases hg6
     obtain ⟨c6,hg7,hv3⟩:=bindS hv3
     refine Br.ite hg7 (fun hb hg7=>?_) fun hb hg7=>?_
     ·refine ⟨_,rfl,_,List.length_map _,fun _=>?_⟩
      cases hg7
      obtain ⟨c7,hg8,hv3⟩:=bindS hv3
      refine Br.ite hg8 (fun hb hg8=>?_) fun hb hg8=>?_
      ·refine ⟨_,rfl,_,List.length_map _,fun _=>?_⟩
       cases hg8
       cases hv3
       exact wt Q1 Q0 rfl
      cases hg8
      cases hv3
      exact wt Q1 Q0 rfl
     cases hg7
     obtain ⟨c7,hg9,hv3⟩:=bindS hv3
     replace hg9:=iteF hg9
     cases hg9
     cases hv3
     exact wt Q1 Q0 rfl
    cases hg6
    obtain ⟨c6,hg10,hv3⟩:=bindS hv3
    replace hg10:=iteF hg10
    cases hg10
    obtain ⟨c7,hg11,hv3⟩:=bindS hv3
    replace hg11:=iteF hg11
    cases hg11
    cases hv3
    exact wt Q1 Q0 rfl
   cases hg5
   obtain ⟨c5,hg12,hv3⟩:=bindS hv3
   replace hg12:=iteF hg12
   cases hg12
   obtain ⟨c6,hg13,hv3⟩:=bindS hv3
   replace hg13:=iteF hg13
   cases hg13
   obtain ⟨c7,hg14,hv3⟩:=bindS hv3
   replace hg14:=iteF hg14
   cases hg14
   cases hv3
   exact wt Q1 Q0 rfl
  cases hg4
  obtain ⟨c4,hg15,hv3⟩:=bindS hv3
  replace hg15:=iteF hg15
  cases hg15
  obtain ⟨c5,hg16,hv3⟩:=bindS hv3
  replace hg16:=iteF hg16
  cases hg16
  obtain ⟨c6,hg17,hv3⟩:=bindS hv3
  replace hg17:=iteF hg17
  cases hg17
  obtain ⟨c7,hg18,hv3⟩:=bindS hv3
  replace hg18:=iteF hg18
  cases hg18
  cases hv3
  exact wt Q1 Q0 rfl
 refine rt ?_
 cases h
 exact Fz.v
theorem w_chainN5 {p_s} {p_a1_0} {r} (h:chainN9 p_s p_a1_0=some r):Pure Tryz.prog 39 [(vi p_s),(.p [(.s (mA p_a1_0))])] (vb r):=by
 refine po Tryz.tok 9 Tryz.func39 (by kernel_rfl) rfl rfl rfl ?_
 unfold chainN9 at h
 refine wE [(0,vi p_s),(1,.p [.s (mA p_a1_0)])] Q2 ?_
 refine sg ?_
 refine wE [(0,vi p_s),(1,.p [.s (mA p_a1_0)])] Q2 ?_
 refine sg ?_
 obtain ⟨x1,hx1,h⟩:=bindS h
 refine ⟨_,rfl,_,idx_nat hx1,_,idx_row hx1,_,rfl,?_⟩
 refine wE [(3,vb x1.Down)] Q1 ?_
 refine rt ?_
 cases h
 exact Fz.v
theorem w_slicesN10 {p_s} {p_f_c0_0} {r} (h:slicesN61 p_s p_f_c0_0=some r):Pure Tryz.prog 57 [(.s (mI p_s)),(.c (.func 39) [] [(.p [(.s (mA p_f_c0_0))])])] (vi r):=by
 refine po Tryz.tok 19 Tryz.func57 (by kernel_rfl) rfl rfl rfl ?_
 unfold slicesN61 at h
 refine wE [(0,.s (mI p_s)),(1,.c (.func 39) [] [.p [.s (mA p_f_c0_0)]])] Q2 ?_
 refine sg ?_
 refine wE [(0,.s (mI p_s)),(1,.c (.func 39) [] [.p [.s (mA p_f_c0_0)]])] Q2 ?_
 refine Ok.seqj (fun v1=>⟨Cat.tab [],[]⟩) (fun v1=>slicesN65 v1=some r) ?_ ?_
 ·refine sg ?_
  refine ⟨_,List.length_map _,fun _=>?_⟩
  refine wE [(0,.s (mI p_s)),(1,.c (.func 39) [] [.p [.s (mA p_f_c0_0)]]),(7,vi (p_s.length:Int)),(8,vi (0))] Q4 ?_
  refine bl ?_
  refine Ok.loop (fun (s1:Int)=>⟨Cat.tab [(0,.s (mI p_s)),(1,.c (.func 39) [] [.p [.s (mA p_f_c0_0)]]),(7,vi (p_s.length:Int)),(8,vi s1)],[]⟩) (slicesN63 p_s p_f_c0_0) (s0:=0) h (wt Q4 Q0 rfl) ?_
  intro s1 y1 hB1 hy1
  unfold slicesN63 at hB1
  refine sg ?_
  refine wE [(0,.s (mI p_s)),(1,.c (.func 39) [] [.p [.s (mA p_f_c0_0)]]),(7,vi (p_s.length:Int)),(8,vi s1),(9,vb (decide (s1 < (p_s.length:Int))))] Q5 ?_
  refine sq ?_
  refine cn 9 (decide (s1 < (p_s.length:Int))) rfl hB1 (fun hb hB1=>?_) fun hb hB1=>?_
  ·refine sk ?_
   refine sq ?_
   refine bl ?_
   refine sg ?_
   refine wE [(0,.s (mI p_s)),(1,.c (.func 39) [] [.p [.s (mA p_f_c0_0)]]),(5,vi s1),(7,vi (p_s.length:Int)),(8,vi s1)] Q5 ?_
   refine sg ?_
   obtain ⟨x1,hx1,hB1⟩:=bindS hB1
   obtain ⟨x2,hx2,hB1⟩:=bindS hB1
   refine ⟨_,idx_nat hx1,_,idx_row hx1,_,rfl,?_⟩
   refine CallOk.call (w_chainN5 hx2) (LeL.refl _) ?_
   refine wE [(0,.s (mI p_s)),(1,.c (.func 39) [] [.p [.s (mA p_f_c0_0)]]),(5,vi s1),(7,vi (p_s.length:Int)),(8,vi s1),(16,vb x2)] Q6 ?_
   refine cn 16 (x2) rfl hB1 (fun hb hB1=>?_) fun hb hB1=>?_
   ·refine sg ?_
    refine wE [(4,vi s1)] Q1 ?_
    refine rt ?_
    have hB1:=out_ret hB1 hy1
    cases hB1
    exact Fz.v
   refine sk ?_
   refine rg ?_
   obtain ⟨hc1,hB1⟩:=chk_some hB1
   refine (Or.inl ⟨hc1,?_⟩)
   exact ⟨_,sj hB1,wt Q4 Q0 rfl⟩
  refine xt ?_
  have hB1:=out_ret hB1 hy1
  exact ⟨_,hB1,wt Q0 Q0 rfl⟩
 intro v1 h
 unfold slicesN65 at h
 refine sg ?_
 refine wE [(4,vi (-1))] Q1 ?_
 refine rt ?_
 cases h
 exact Fz.v
theorem w_slicesN4 {p_s} {p_f_c0} {r} (h:slicesN29 p_s p_f_c0=some r):Pure Tryz.prog 38 [(.s (mI p_s)),(.c (.func 39) [] [(.p [(.s (mA p_f_c0))])])] (vb r):=by
 refine po Tryz.tok 9 Tryz.func38 (by kernel_rfl) rfl rfl rfl ?_
 unfold slicesN29 at h
 refine wE [(0,.s (mI p_s)),(1,.c (.func 39) [] [.p [.s (mA p_f_c0)]])] Q2 ?_
 refine sg ?_
 refine wE [(0,.s (mI p_s)),(1,.c (.func 39) [] [.p [.s (mA p_f_c0)]])] Q2 ?_
 refine sg ?_
 obtain ⟨x1,hx1,h⟩:=bindS h
 refine CallOk.call (w_slicesN10 hx1) (LeL.refl _) ?_
 refine wE [(4,vb (decide (x1≥0)))] Q1 ?_
 refine rt ?_
 cases h
 exact Fz.v
theorem wo_slicesN1 {p_s} {r} (h:slicesN1 p_s=some r):POwn Tryz.prog 58 [(.s (mA p_s))] 29 3 (mA r):=by
 refine pw Tryz.tok 8 Tryz.func58 (by kernel_rfl) rfl rfl rfl ?_
 unfold slicesN1 at h
 refine wE [(0,.s (mA p_s))] Q1 ?_
 refine sg ?_
 refine wE [(0,.s (mA p_s))] Q1 ?_
 refine sq ?_
 refine sg ?_
 intro b1 hb1
 have h:=anyOf_some h b1 (fun e=>List.map_eq_nil_iff.1 (hb1 e))
 refine wE [(0,.s (mA p_s)),(4,vb b1)] Q2 ?_
 refine cn 4 (b1) rfl h (fun hb h=>?_) fun hb h=>?_
 ·refine sg ?_
  refine wE [(2,.v (.slice none 0 0))] Q1 ?_
  refine rt ?_
  cases h
  exact (.inl ⟨rfl,rfl⟩)
 refine sk ?_
 refine sg ?_
 obtain ⟨hc1,h⟩:=chk_some h
 refine Or.inr ⟨rowsLen_map (f:=c_api_Disk) (n:=3) (fun _=>rfl) p_s,app_b2 (f:=c_api_Disk) (l:=([]:List api_Disk)) (l':=p_s) hc1,_,(List.map_append (f:=c_api_Disk) (l₁:=([]:List api_Disk)) (l₂:=p_s)).symm,?_⟩
 refine wT [(2,.o 5)] [(5,.own 29 3 (mA (([]:List api_Disk)++p_s)))] Q1 J1 rfl ?_
 refine rt ?_
 cases h
 exact (.inr ⟨_,rfl,rfl⟩)
theorem wg_chainN4 {p_c} {p_disks} {p_data} {r} (h:chainN32 p_c p_disks p_data=some r):CallOk Tryz.prog 40 [(.a [(vi p_c.Id),(vi p_c.Ver),(.s (mI p_c.Servers))]),(.s (mA p_disks)),(.s (mU p_data))] ⟨noSlots,[]⟩ fun x s=>x=(.t [(.o 10),(.c (.func 59) [] [(.b 8 0),(.b 3 0),(.b 5 0)])])∧s.H=[(10,.own 29 3 (mA r)),(8,.box [(.o 10)]),(3,.box [(vi p_c.Id),(vi p_c.Ver),(.s (mI p_c.Servers))]),(5,.box [(.s (mU p_data))])]:=by
 refine pgen_of_ok (n:=13) (c:=Tryz.f40.body.getD .skip) Tryz.tok Tryz.func40 (by kernel_rfl) rfl rfl (Nat.le_of_ble_eq_true rfl) ?_
 unfold chainN32 at h
 refine wE [(0,.a [vi p_c.Id,vi p_c.Ver,.s (mI p_c.Servers)]),(1,.s (mA p_disks)),(2,.s (mU p_data))] Q3 ?_
 refine sg ?_
 refine wT [(1,.s (mA p_disks)),(3,.b 3 0),(5,.b 5 0)] [(3,.box [vi p_c.Id,vi p_c.Ver,.s (mI p_c.Servers)]),(5,.box [.s (mU p_data)])] Q3 J2 rfl ?_
 refine sg ?_
 obtain ⟨x1,hx1,h⟩:=bindS h
 refine CallOk.own (D:=10) (wo_slicesN1 hx1) (LeL.refl _) rfl ?_
 refine ⟨_,rfl,?_⟩
 refine wT [(3,.b 3 0),(5,.b 5 0),(8,.b 8 0)] [(3,.box [vi p_c.Id,vi p_c.Ver,.s (mI p_c.Servers)]),(5,.box [.s (mU p_data)]),(8,.box [.o 10]),(10,.own 29 3 (mA x1))] Q3 J4 rfl ?_
 refine sg ?_
 refine ⟨_,rfl,?_⟩
 refine wT [(6,.o 10),(7,.c (.func 59) [] [.b 8 0,.b 3 0,.b 5 0])] [(10,.own 29 3 (mA x1)),(8,.box [.o 10]),(3,.box [vi p_c.Id,vi p_c.Ver,.s (mI p_c.Servers)]),(5,.box [.s (mU p_data)])] Q2 J4 rfl ?_
 refine rt ?_
 cases h
 exact wt Q1 J4 rfl
theorem wo_slicesN3 {p_s} {r} (h:slicesN5 p_s=some r):POwn Tryz.prog 84 [(.s (mU p_s))] 5 1 (mU r):=by
 refine pw Tryz.tok 8 Tryz.func84 (by kernel_rfl) rfl rfl rfl ?_
 unfold slicesN5 at h
 refine wE [(0,.s (mU p_s))] Q1 ?_
 refine sg ?_
 refine wE [(0,.s (mU p_s))] Q1 ?_
 refine sq ?_
 refine sg ?_
 intro b1 hb1
 have h:=anyOf_some h b1 (fun e=>List.map_eq_nil_iff.1 (hb1 e))
 refine wE [(0,.s (mU p_s)),(4,vb b1)] Q2 ?_
 refine cn 4 (b1) rfl h (fun hb h=>?_) fun hb h=>?_
 ·refine sg ?_
  refine wE [(2,.v (.slice none 0 0))] Q1 ?_
  refine rt ?_
  cases h
  exact (.inl ⟨rfl,rfl⟩)
 refine sk ?_
 refine sg ?_
 obtain ⟨hc1,h⟩:=chk_some h
 refine Or.inr ⟨rowsLen_map (f:=cU8) (n:=1) (fun _=>rfl) p_s,app_b2 (f:=cU8) (l:=([]:List UInt8)) (l':=p_s) hc1,_,(List.map_append (f:=cU8) (l₁:=([]:List UInt8)) (l₂:=p_s)).symm,?_⟩
 refine wT [(2,.o 5)] [(5,.own 5 1 (mU (([]:List UInt8)++p_s)))] Q1 J1 rfl ?_
 refine rt ?_
 cases h
 exact (.inr ⟨_,rfl,rfl⟩)
theorem w_slicesN1 {p_s} {r} (h:slicesN5 p_s=some r):Pure Tryz.prog 84 [(.s (mU p_s))] (.s (mU r)):=(wo_slicesN3 h).pure
theorem w_sumN2 {p_c} {r} (h:sum_half_1 p_c=some r):Pure Tryz.prog 135 [(.v (.int .u32 p_c))] (.v (.int .u32 r)):=by
 refine po Tryz.tok 11 Tryz.func135 (by kernel_rfl) rfl rfl rfl ?_
 unfold sum_half_1 at h
 refine wE [(0,.v (.int .u32 p_c))] Q1 ?_
 refine sg ?_
 refine wE [(0,.v (.int .u32 p_c))] Q1 ?_
 refine sq ?_
 refine sg ?_
 refine ⟨_,rfl,?_⟩
 refine wE [(0,.v (.int .u32 p_c)),(5,vb ((andK .u32 p_c (1)) == 1))] Q2 ?_
 refine cn 5 ((andK .u32 p_c (1)) == 1) rfl h (fun hb h=>?_) fun hb h=>?_
 ·refine sg ?_
  refine ⟨(by decide),_,rfl,_,rfl,?_⟩
  refine wE [(2,.v (.int .u32 (xorK .u32 (shrK .u32 p_c (1)) (2197175160))))] Q1 ?_
  refine rt ?_
  cases h
  exact Fz.v
 refine sk ?_
 refine sg ?_
 refine ⟨(by decide),_,rfl,?_⟩
 refine wE [(2,.v (.int .u32 (shrK .u32 p_c (1))))] Q1 ?_
 refine rt ?_
 cases h
 exact Fz.v
theorem w_sum_half {r} (h:sum_half=some r):Pure Tryz.prog 115 [] (.a (List.map a_u32 r)):=by
 refine po Tryz.tok 21 Tryz.func115 (by kernel_rfl) rfl rfl rfl ?_
 unfold sum_half at h
 refine wE [] Q0 ?_
 refine sg ?_
 refine wT [(0,.b 0 0)] [(0,.box (List.map a_u32 (List.replicate 16 0)))] Q1 J1 rfl ?_
 refine sg ?_
 refine wT [(0,.b 0 0),(1,.b 1 0)] [(0,.box (List.map a_u32 (List.replicate 16 0))),(1,.box (List.map a_u32 (List.replicate 16 0)))] Q2 ⟨⟨_,rfl,.arr1 (fun _ _=>rfl)⟩,J1⟩ rfl ?_
 refine sg ?_
 refine wT [(0,.b 0 0),(1,.b 1 0),(2,.c (.func 135) [] [])] [(0,.box (List.map a_u32 (List.replicate 16 0))),(1,.box (List.map a_u32 (List.replicate 16 0)))] Q3 J2 rfl ?_
 obtain ⟨v1,hv1,h⟩:=bindS h
 refine Ok.seqw ⟨Cat.tab [(0,.b 0 0),(1,.b 1 0)],[(0,.box (List.map a_u32 (List.replicate 16 0))),(1,.box (List.map a_u32 v1))]⟩ ?_ ?_
 ·refine sg ?_
  refine wT [(0,.b 0 0),(1,.b 1 0),(2,.c (.func 135) [] []),(5,vi (0))] [(0,.box (List.map a_u32 (List.replicate 16 0))),(1,.box (List.map a_u32 (List.replicate 16 0)))] Q4 J2 rfl ?_
  refine bl ?_
  refine Ok.loop (fun (s1:Int×(List Int))=>⟨Cat.tab [(0,.b 0 0),(1,.b 1 0),(2,.c (.func 135) [] []),(5,vi s1.1)],[(0,.box (List.map a_u32 (List.replicate 16 0))),(1,.box (List.map a_u32 s1.2))]⟩) (sum_half_B1) (s0:=(0,List.replicate 16 0)) hv1 (wt Q4 ⟨⟨_,rfl,.refl _⟩,⟨_,rfl,.refl _⟩,Q0⟩ rfl) ?_
  intro s1 y1 hB1 hy1
  unfold sum_half_B1 at hB1
  refine sg ?_
  refine wT [(0,.b 0 0),(1,.b 1 0),(2,.c (.func 135) [] []),(5,vi s1.1),(6,vb (decide (s1.1 < 16)))] [(0,.box (List.map a_u32 (List.replicate 16 0))),(1,.box (List.map a_u32 s1.2))] Q5 J2 rfl ?_
  refine sq ?_
  refine cn 6 (decide (s1.1 < 16)) rfl hB1 (fun hb hB1=>?_) fun hb hB1=>?_
  ·refine sk ?_
   obtain ⟨v2,hv2,hB1⟩:=bindS hB1
   refine Ok.seqw ⟨Cat.tab [(0,.b 0 0),(1,.b 1 0),(2,.c (.func 135) [] []),(5,vi s1.1)],[(0,.box (List.map a_u32 (List.replicate 16 0))),(1,.box (List.map a_u32 v2))]⟩ ?_ ?_
   ·refine bl ?_
    refine sg ?_
    refine wT [(0,.b 0 0),(1,.b 1 0),(2,.c (.func 135) [] []),(3,vi s1.1),(5,vi s1.1)] [(0,.box (List.map a_u32 (List.replicate 16 0))),(1,.box (List.map a_u32 s1.2))] Q5 J2 rfl ?_
    refine sg ?_
    refine ⟨_,rfl,?_⟩
    obtain ⟨v3,hv3,hv2⟩:=bindS hv2
    refine Ok.seqw ⟨Cat.tab [(0,.b 0 0),(1,.b 1 0),(2,.c (.func 135) [] []),(3,vi s1.1),(4,.v (.int .u32 v3)),(5,vi s1.1)],[(0,.box (List.map a_u32 (List.replicate 16 0))),(1,.box (List.map a_u32 s1.2))]⟩ ?_ ?_
    ·refine sg ?_
     refine wT [(0,.b 0 0),(1,.b 1 0),(2,.c (.func 135) [] []),(3,vi s1.1),(4,.v (.int .u32 (IntKind.u32.wrap s1.1))),(5,vi s1.1),(10,vi (0))] [(0,.box (List.map a_u32 (List.replicate 16 0))),(1,.box (List.map a_u32 s1.2))] Q7 J2 rfl ?_
     refine bl ?_
     refine Ok.loop (fun (s2:Int×Int)=>⟨Cat.tab [(0,.b 0 0),(1,.b 1 0),(2,.c (.func 135) [] []),(3,vi s1.1),(4,.v (.int .u32 s2.1)),(5,vi s1.1),(10,vi s2.2)],[(0,.box (List.map a_u32 (List.replicate 16 0))),(1,.box (List.map a_u32 s1.2))]⟩) (sum_half_B2) (s0:=((IntKind.u32.wrap s1.1),0)) hv3 (wt Q7 ⟨⟨_,rfl,.refl _⟩,⟨_,rfl,.refl _⟩,Q0⟩ rfl) ?_
     intro s2 y2 hB2 hy2
     unfold sum_half_B2 at hB2
     refine sg ?_
     refine sq ?_
     refine cn 11 (decide (s2.2 < 4)) rfl hB2 (fun hb hB2=>?_) fun hb hB2=>?_
     ·refine sk ?_
      refine sq ?_
      refine bl ?_
      refine rg ?_
      obtain ⟨x1,hx1,hB2⟩:=bindS hB2
      refine CallOk.call (w_sumN2 hx1) (LeL.refl _) ?_
      refine wT [(0,.b 0 0),(1,.b 1 0),(2,.c (.func 135) [] []),(3,vi s1.1),(4,.v (.int .u32 x1)),(5,vi s1.1),(10,vi s2.2)] [(0,.box (List.map a_u32 (List.replicate 16 0))),(1,.box (List.map a_u32 s1.2))] Q7 J2 rfl ?_
      refine rg ?_
      obtain ⟨hc1,hB2⟩:=chk_some hB2
      refine (Or.inl ⟨hc1,?_⟩)
      exact ⟨_,sj hB2,wt Q7 J2 rfl⟩
     refine xt ?_
     have hB2:=out_ret hB2 hy2
     cases hB2
     exact wt Q6 J2 rfl
    refine rg ?_
    obtain ⟨x2,hx2,hv2⟩:=bindS hv2
    obtain ⟨hc2,hv2⟩:=chk_some hv2
    refine ⟨_,idx_nat hx2,arr_lt hx2 hc2,bif_of (arr_st hx2) ⟨_,arr_set hx2,?_⟩⟩
    cases hv2
    exact wt Q4 J2 rfl
   refine rg ?_
   obtain ⟨hc3,hB1⟩:=chk_some hB1
   refine (Or.inl ⟨hc3,?_⟩)
   exact ⟨_,sj hB1,wt Q4 J2 rfl⟩
  refine xt ?_
  have hB1:=out_ret hB1 hy1
  cases hB1
  exact wt Q2 J2 rfl
 refine sg ?_
 obtain ⟨hc4,h⟩:=chk_some h
 obtain ⟨hc5,h⟩:=chk_some h
 refine bif_of (arr_len hc4) ⟨_,arr_all hc4,bif_of (arr_sto (f:=a_u32) (l:=v1) (l0:=List.replicate 16 0) rfl hc5 (by rfl)) ⟨_,arr_seq (f:=a_u32) (l:=v1) (l0:=List.replicate 16 0) rfl (by rfl),?_⟩⟩
 refine wT [(0,.b 0 0)] [(0,.box (List.map a_u32 v1))] Q1 J1 rfl ?_
 refine rt ?_
 obtain ⟨hl1,h⟩:=chk_some h
 cases h
 exact bif_of (arr_len hl1) ⟨_,arr_all hl1,(Fz.arr (fun _=>rfl))⟩
theorem w_sum_of {p_t} {p_b} {r} (h:sum_of p_t p_b=some r):Pure Tryz.prog 116 [(.a (List.map a_u32 p_t)),(.s (mU p_b))] (vi r):=by
 refine po Tryz.tok 36 Tryz.func116 (by kernel_rfl) rfl rfl rfl ?_
 unfold sum_of at h
 refine wE [(0,.a (List.map a_u32 p_t)),(1,.s (mU p_b))] Q2 ?_
 refine sg ?_
 refine wT [(1,.s (mU p_b)),(2,.b 2 0)] [(2,.box (List.map a_u32 p_t))] Q2 ⟨⟨_,rfl,.arr1 (fun _ _=>rfl)⟩,Q0⟩ rfl ?_
 refine sg ?_
 refine wT [(1,.s (mU p_b)),(2,.b 2 0),(5,.v (.int .u32 (4294967295)))] [(2,.box (List.map a_u32 p_t))] Q3 J1 rfl ?_
 obtain ⟨v1,hv1,h⟩:=bindS h
 refine Ok.seqw ⟨Cat.tab [(5,.v (.int .u32 v1))],[]⟩ ?_ ?_
 ·refine sg ?_
  refine ⟨_,List.length_map _,fun _=>?_⟩
  refine wT [(2,.b 2 0),(5,.v (.int .u32 (4294967295))),(8,.s (mU p_b)),(9,vi (p_b.length:Int)),(10,vi (0))] [(2,.box (List.map a_u32 p_t))] Q5 J1 rfl ?_
  refine bl ?_
  refine Ok.loop (fun (s1:Int×Int)=>⟨Cat.tab [(2,.b 2 0),(5,.v (.int .u32 s1.1)),(8,.s (mU p_b)),(9,vi (p_b.length:Int)),(10,vi s1.2)],[(2,.box (List.map a_u32 p_t))]⟩) (sum_of_B1 p_b p_t) (s0:=(4294967295,0)) hv1 (wt Q5 ⟨⟨_,rfl,.refl _⟩,Q0⟩ rfl) ?_
  intro s1 y1 hB1 hy1
  unfold sum_of_B1 at hB1
  refine sg ?_
  refine wT [(2,.b 2 0),(5,.v (.int .u32 s1.1)),(8,.s (mU p_b)),(9,vi (p_b.length:Int)),(10,vi s1.2),(11,vb (decide (s1.2 < (p_b.length:Int))))] [(2,.box (List.map a_u32 p_t))] Q6 J1 rfl ?_
  refine sq ?_
  refine cn 11 (decide (s1.2 < (p_b.length:Int))) rfl hB1 (fun hb hB1=>?_) fun hb hB1=>?_
  ·refine sk ?_
   refine sq ?_
   refine bl ?_
   refine sg ?_
   obtain ⟨x1,hx1,hB1⟩:=bindS hB1
   refine ⟨_,idx_nat hx1,_,idx_row hx1,_,rfl,?_⟩
   refine wT [(2,.b 2 0),(5,.v (.int .u32 s1.1)),(7,vu x1),(8,.s (mU p_b)),(9,vi (p_b.length:Int)),(10,vi s1.2)] [(2,.box (List.map a_u32 p_t))] Q6 J1 rfl ?_
   refine sg ?_
   refine ⟨_,wrap_of_u8 (k:=.u32) (by decide) _,_,rfl,?_⟩
   refine wT [(2,.b 2 0),(5,.v (.int .u32 (xorK .u32 s1.1 (x1.toNat:Int)))),(8,.s (mU p_b)),(9,vi (p_b.length:Int)),(10,vi s1.2)] [(2,.box (List.map a_u32 p_t))] Q5 J1 rfl ?_
   refine sg ?_
   obtain ⟨x2,hx2,hB1⟩:=bindS hB1
   obtain ⟨hc1,hB1⟩:=chk_some hB1
   refine ⟨_,rfl,_,idx_nat hx2,arr_lt hx2 hc1,bif_of (arr_ble hx2) ⟨_,arr_get hx2,(by decide),_,rfl,_,rfl,?_⟩⟩
   refine wT [(2,.b 2 0),(5,.v (.int .u32 (xorK .u32 x2 (shrK .u32 (xorK .u32 s1.1 (x1.toNat:Int)) (4))))),(8,.s (mU p_b)),(9,vi (p_b.length:Int)),(10,vi s1.2)] [(2,.box (List.map a_u32 p_t))] Q5 J1 rfl ?_
   refine rg ?_
   obtain ⟨x3,hx3,hB1⟩:=bindS hB1
   obtain ⟨hc2,hB1⟩:=chk_some hB1
   refine ⟨_,rfl,_,idx_nat hx3,arr_lt hx3 hc2,bif_of (arr_ble hx3) ⟨_,arr_get hx3,(by decide),_,rfl,_,rfl,?_⟩⟩
   refine rg ?_
   obtain ⟨hc3,hB1⟩:=chk_some hB1
   refine (Or.inl ⟨hc3,?_⟩)
   exact ⟨_,sj hB1,wt Q5 J1 rfl⟩
  refine xt ?_
  have hB1:=out_ret hB1 hy1
  cases hB1
  exact wt Q1 Q0 rfl
 refine sg ?_
 refine ⟨_,rfl,_,rfl,?_⟩
 refine wE [(4,vi (IntKind.i64.wrap (xorK .u32 v1 (4294967295))))] Q1 ?_
 refine rt ?_
 cases h
 exact Fz.v
theorem wo_sumN1 {p_data} {r} (h:sum_Blocks p_data=some r):POwn Tryz.prog 85 [(.s (mU p_data))] 3 1 (mI r):=by
 refine pw Tryz.tok 25 Tryz.func85 (by kernel_rfl) rfl rfl rfl ?_
 unfold sum_Blocks at h
 refine wE [(0,.s (mU p_data))] Q1 ?_
 refine sg ?_
 refine wE [(0,.s (mU p_data))] Q1 ?_
 refine sg ?_
 obtain ⟨x1,hx1,h⟩:=bindS h
 refine CallOk.call (w_sum_half hx1) (LeL.refl _) ?_
 obtain ⟨hc1,h⟩:=chk_some h
 refine bif_of (arr_sto (f:=a_u32) (l:=x1) (l0:=List.replicate 16 0) (er_map (fun _ _=>rfl) _ _) hc1 (by rfl)) ⟨_,arr_seq (f:=a_u32) (l:=x1) (l0:=List.replicate 16 0) (er_map (fun _ _=>rfl) _ _) (by rfl),?_⟩
 refine wT [(0,.s (mU p_data)),(3,.b 3 0)] [(3,.box (List.map a_u32 x1))] Q2 J1 rfl ?_
 refine sg ?_
 refine wT [(0,.s (mU p_data)),(3,.b 3 0),(4,.v (.slice none 0 0))] [(3,.box (List.map a_u32 x1))] Q3 J1 rfl ?_
 obtain ⟨v1,hv1,h⟩:=bindS h
 refine Ok.seqw ⟨Cat.tab [(4,.o 20)],[(20,.own 3 1 (mI v1))]⟩ ?_ ?_
 ·refine bl ?_
  refine Ok.loop (fun (s1:(List UInt8)×(List Int))=>⟨Cat.tab [(0,.s (mU s1.1)),(3,.b 3 0),(4,.o 20)],[(3,.box (List.map a_u32 x1)),(20,.own 3 1 (mI s1.2))]⟩) (sumN1 x1) (s0:=(p_data,[])) hv1 ((Wk.own0 (t:=4) (id:=20) (E:=3) (K:=1) rfl rfl).trans (wt Q3 ⟨⟨_,rfl,.arr1 (fun _ _=>rfl)⟩,⟨_,rfl,.refl _⟩,Q0⟩ rfl)) ?_
  intro s1 y1 hB1 hy1
  unfold sumN1 at hB1
  refine sq ?_
  refine sg ?_
  refine ⟨_,List.length_map _,fun _=>?_⟩
  refine wT [(0,.s (mU s1.1)),(3,.b 3 0),(4,.o 20),(9,vb (decide ((s1.1.length:Int) > 0)))] [(3,.box (List.map a_u32 x1)),(20,.own 3 1 (mI s1.2))] Q4 J2 rfl ?_
  refine cn 9 (decide ((s1.1.length:Int) > 0)) rfl hB1 (fun hb hB1=>?_) fun hb hB1=>?_
  ·refine sk ?_
   refine bl ?_
   refine sg ?_
   refine ⟨_,List.length_map _,fun _=>⟨_,rfl,?_⟩⟩
   refine wT [(0,.s (mU s1.1)),(3,.b 3 0),(4,.o 20),(5,vi (min (s1.1.length:Int) (16)))] [(3,.box (List.map a_u32 x1)),(20,.own 3 1 (mI s1.2))] Q4 J2 rfl ?_
   refine sq ?_
   refine Ok.draw (m:=7) (MD:=⟨[]⟩) (CH:=⟨[]⟩) Tryz.tok Tryz.mixed (by kernel_rfl) ?_
   obtain ⟨hc2,hB1⟩:=chk_some hB1
   obtain ⟨hc3,hB1⟩:=chk_some hB1
   obtain ⟨x2,hx2,hB1⟩:=bindS hB1
   obtain ⟨hc4,hB1⟩:=chk_some hB1
   refine ⟨_,rfl,_,bif_of (arr_len hc2) ⟨_,arr_all hc2,rfl⟩,_,rfl,_,rfl,_,⟨_,sl_nat hc3.1,Nat.zero_le _,sl_len hc3,rowsK (f:=cU8) (K:=1) (fun _=>rfl) s1.1,_,sl_take _ _ _,rfl⟩,_,⟨_,.of_pure (w_sum_of hx2) (LeL.refl _),rfl⟩,_,rfl,Q0,rowsLen_map (f:=Go.Cat.encI) (n:=1) (fun _=>rfl) ([x2]),app_b2 (f:=Go.Cat.encI) (l:=s1.2) (l':=[x2]) hc4,_,(List.map_append (f:=Go.Cat.encI) (l₁:=s1.2) (l₂:=[x2])).symm,?_⟩
   refine wT [(0,.s (mU s1.1)),(3,.b 3 0),(4,.o 20),(5,vi (min (s1.1.length:Int) (16)))] [(3,.box (List.map a_u32 x1)),(20,.own 3 1 (mI (s1.2++[x2])))] Q4 ⟨⟨_,rfl,.arr1 (fun _ _=>rfl)⟩,J1⟩ rfl ?_
   refine rg ?_
   obtain ⟨hc5,hB1⟩:=chk_some hB1
   refine ⟨_,sl_nat hc5.1,sl_len hc5,Nat.le_refl _,rowsK (f:=cU8) (K:=1) (fun _=>rfl) s1.1,_,sl_drop _ _ _,?_⟩
   exact ⟨_,sj hB1,wt Q3 J2 rfl⟩
  refine xt ?_
  have hB1:=out_ret hB1 hy1
  cases hB1
  exact wt Q1 J1 rfl
 refine sg ?_
 refine wT [(2,.o 20)] [(20,.own 3 1 (mI v1))] Q1 J1 rfl ?_
 refine rt ?_
 cases h
 exact (.inr ⟨_,rfl,rfl⟩)
theorem w_sumN1 {p_data} {r} (h:sum_Blocks p_data=some r):Pure Tryz.prog 85 [(.s (mU p_data))] (.s (mI r)):=(wo_sumN1 h).pure
theorem w_chunk_New {p_id} {p_ver} {p_data} {r} (h:chunk_New p_id p_ver p_data=some r):Pure Tryz.prog 61 [(vi p_id),(vi p_ver),(.s (mU p_data))] (.a [(vi r.Id),(vi r.Ver),(.s (mU r.Data)),(.s (mI r.Sums))]):=by
 refine po Tryz.tok 14 Tryz.func61 (by kernel_rfl) rfl rfl rfl ?_
 unfold chunk_New at h
 refine wE [(0,vi p_id),(1,vi p_ver),(2,.s (mU p_data))] Q3 ?_
 refine sg ?_
 refine wT [(0,vi p_id),(1,vi p_ver),(2,.s (mU p_data)),(6,.b 6 0)] [(6,.box [vi (0),vi (0),.v (.slice none 0 0),.v (.slice none 0 0)])] Q4 J1 rfl ?_
 refine sg ?_
 obtain ⟨x1,hx1,h⟩:=bindS h
 refine CallOk.call (w_slicesN1 hx1) (LeL.refl _) ?_
 obtain ⟨x2,hx2,h⟩:=bindS h
 refine CallOk.call (w_sumN1 hx2) (LeL.refl _) ?_
 refine ⟨_,rfl,?_⟩
 refine wT [(6,.b 6 0)] [(6,.box [vi p_id,vi p_ver,.s (mU x1),.s (mI x2)])] Q1 J1 rfl ?_
 refine rt ?_
 cases h
 exact ⟨_,rfl,(Fz.imm rfl)⟩
theorem w_chunkN8 {p_id} {r} (h:chunkN16 p_id=some r):Pure Tryz.prog 89 [(vi p_id)] (vb r):=by
 refine po Tryz.tok 9 Tryz.func89 (by kernel_rfl) rfl rfl rfl ?_
 unfold chunkN16 at h
 refine wE [(0,vi p_id)] Q1 ?_
 refine sg ?_
 refine wE [(0,vi p_id)] Q1 ?_
 obtain ⟨v1,hv1,h⟩:=bindS h
 refine Ok.seqw ⟨Cat.tab [(2,vb v1)],[]⟩ ?_ ?_
 ·refine rg ?_
  obtain ⟨c1,hg1,hv1⟩:=bindS hv1
  refine Br.ite hg1 (fun hb hg1=>?_) fun hb hg1=>?_
  ·cases hg1
   cases hv1
   exact wt Q1 Q0 rfl
  cases hg1
  cases hv1
  exact wt Q1 Q0 rfl
 refine rt ?_
 cases h
 exact Fz.v
theorem w_sum_Check {p_data} {p_sums} {r} (h:sum_Check p_data p_sums=some r):Pure Tryz.prog 96 [(.s (mU p_data)),(.s (mI p_sums))] (vi r):=by
 refine po Tryz.tok 38 Tryz.func96 (by kernel_rfl) rfl rfl rfl ?_
 unfold sum_Check at h
 refine wE [(0,.s (mU p_data)),(1,.s (mI p_sums))] Q2 ?_
 refine sg ?_
 refine wE [(0,.s (mU p_data)),(1,.s (mI p_sums))] Q2 ?_
 refine sg ?_
 obtain ⟨x1,hx1,h⟩:=bindS h
 refine CallOk.call (w_sumN1 hx1) (LeL.refl _) ?_
 refine wE [(1,.s (mI p_sums)),(5,.s (mI x1))] Q2 ?_
 refine Ok.seqj (fun v1=>⟨Cat.tab [(1,.s (mI p_sums)),(5,.s (mI x1))],[]⟩) (fun v1=>sumN7 x1 p_sums v1=some r) ?_ ?_
 ·refine sg ?_
  refine ⟨_,List.length_map _,fun _=>⟨_,List.length_map _,fun _=>⟨_,rfl,?_⟩⟩⟩
  refine wE [(1,.s (mI p_sums)),(5,.s (mI x1)),(13,vi (min (x1.length:Int) (p_sums.length:Int))),(14,vi (0))] Q4 ?_
  refine bl ?_
  refine Ok.loop (fun (s1:Int)=>⟨Cat.tab [(1,.s (mI p_sums)),(5,.s (mI x1)),(13,vi (min (x1.length:Int) (p_sums.length:Int))),(14,vi s1)],[]⟩) (sumN5 x1 p_sums) (s0:=0) h (wt Q4 Q0 rfl) ?_
  intro s1 y1 hB1 hy1
  unfold sumN5 at hB1
  refine sg ?_
  refine wE [(1,.s (mI p_sums)),(5,.s (mI x1)),(13,vi (min (x1.length:Int) (p_sums.length:Int))),(14,vi s1),(15,vb (decide (s1 < (min (x1.length:Int) (p_sums.length:Int)))))] Q5 ?_
  refine sq ?_
  refine cn 15 (decide (s1 < (min (x1.length:Int) (p_sums.length:Int)))) rfl hB1 (fun hb hB1=>?_) fun hb hB1=>?_
  ·refine sk ?_
   refine sq ?_
   refine bl ?_
   refine sg ?_
   refine wE [(1,.s (mI p_sums)),(5,.s (mI x1)),(6,vi s1),(13,vi (min (x1.length:Int) (p_sums.length:Int))),(14,vi s1)] Q5 ?_
   refine sq ?_
   refine Ok.draw (m:=9) (MD:=⟨[]⟩) (CH:=⟨[]⟩) Tryz.tok Tryz.mixed (by kernel_rfl) ?_
   obtain ⟨x2,hx2,hB1⟩:=bindS hB1
   obtain ⟨x3,hx3,hB1⟩:=bindS hB1
   refine ⟨_,rfl,_,rfl,_,⟨_,idx_nat hx2,_,idx_row hx2,rfl⟩,_,⟨_,rfl,rfl⟩,_,rfl,_,rfl,_,⟨_,idx_nat hx3,_,idx_row hx3,rfl⟩,_,⟨_,rfl,rfl⟩,_,rfl,Q0,?_⟩
   refine wE [(1,.s (mI p_sums)),(5,.s (mI x1)),(6,vi s1),(13,vi (min (x1.length:Int) (p_sums.length:Int))),(14,vi s1),(25,vb (x2 != x3))] Q6 ?_
   refine cn 25 (x2 != x3) rfl hB1 (fun hb hB1=>?_) fun hb hB1=>?_
   ·refine sg ?_
    refine wE [(4,vi s1)] Q1 ?_
    refine rt ?_
    have hB1:=out_ret hB1 hy1
    cases hB1
    exact Fz.v
   refine sk ?_
   refine rg ?_
   obtain ⟨hc1,hB1⟩:=chk_some hB1
   refine (Or.inl ⟨hc1,?_⟩)
   exact ⟨_,sj hB1,wt Q4 Q0 rfl⟩
  refine xt ?_
  have hB1:=out_ret hB1 hy1
  exact ⟨_,hB1,wt Q2 Q0 rfl⟩
 intro v1 h
 unfold sumN7 at h
 refine sq ?_
 refine sg ?_
 refine ⟨_,List.length_map _,fun _=>⟨_,List.length_map _,fun _=>?_⟩⟩
 refine wE [(1,.s (mI p_sums)),(5,.s (mI x1)),(32,vb ((x1.length:Int) != (p_sums.length:Int)))] Q3 ?_
 refine cn 32 ((x1.length:Int) != (p_sums.length:Int)) rfl h (fun hb h=>?_) fun hb h=>?_
 ·refine sg ?_
  refine ⟨_,List.length_map _,fun _=>⟨_,List.length_map _,fun _=>⟨_,rfl,?_⟩⟩⟩
  refine wE [(4,vi (min (x1.length:Int) (p_sums.length:Int)))] Q1 ?_
  refine rt ?_
  cases h
  exact Fz.v
 refine sk ?_
 refine sg ?_
 refine wE [(4,vi (-1))] Q1 ?_
 refine rt ?_
 cases h
 exact Fz.v
theorem w_chunk_may {p_c} {r} (h:chunk_may p_c=some r):Pure Tryz.prog 69 [(.a [(vi p_c.Id),(vi p_c.Ver),(.s (mU p_c.Data)),(.s (mI p_c.Sums))])] (vb r):=by
 refine po Tryz.tok 30 Tryz.func69 (by kernel_rfl) rfl rfl rfl ?_
 unfold chunk_may at h
 refine wE [(0,.a [vi p_c.Id,vi p_c.Ver,.s (mU p_c.Data),.s (mI p_c.Sums)])] Q1 ?_
 refine sg ?_
 refine wT [(1,.b 1 0)] [(1,.box [vi p_c.Id,vi p_c.Ver,.s (mU p_c.Data),.s (mI p_c.Sums)])] Q1 J1 rfl ?_
 obtain ⟨v1,hv1,h⟩:=bindS h
 refine Ok.seqw ⟨Cat.tab [(2,vb v1)],[]⟩ ?_ ?_
 ·refine rg ?_
  obtain ⟨x1,hx1,hv1⟩:=bindS hv1
  refine ⟨_,rfl,?_⟩
  refine CallOk.call (w_chunkN8 hx1) (LeL.refl _) ?_
  obtain ⟨c1,hg1,hv1⟩:=bindS hv1
  refine Br.ite hg1 (fun hb hg1=>?_) fun hb hg1=>?_
  ·refine ⟨_,rfl,?_⟩
   cases hg1
   obtain ⟨c2,hg2,hv1⟩:=bindS hv1
   refine Br.ite hg2 (fun hb hg2=>?_) fun hb hg2=>?_
   ·refine ⟨_,rfl,?_⟩
    cases hg2
    obtain ⟨c3,hg3,hv1⟩:=bindS hv1
    refine Br.ite hg3 (fun hb hg3=>?_) fun hb hg3=>?_
    ·refine ⟨_,rfl,_,List.length_map _,fun _=>?_⟩
     cases hg3
     obtain ⟨c4,hg4,hv1⟩:=bindS hv1
     refine Br.ite hg4 (fun hb hg4=>?_) fun hb hg4=>?_
     ·obtain ⟨x2,hx2,hg4⟩:=bindS hg4
      refine ⟨_,rfl,_,rfl,?_⟩
      refine CallOk.call (w_sum_Check hx2) (LeL.refl _) ?_
      cases hg4
      cases hv1
      exact wt Q1 Q0 rfl
     cases hg4
     cases hv1
     exact wt Q1 Q0 rfl
    cases hg3
    obtain ⟨c4,hg5,hv1⟩:=bindS hv1
    replace hg5:=iteF hg5
    cases hg5
    cases hv1
    exact wt Q1 Q0 rfl
   cases hg2
   obtain ⟨c3,hg6,hv1⟩:=bindS hv1
   replace hg6:=iteF hg6
   cases hg6
   obtain ⟨c4,hg7,hv1⟩:=bindS hv1
   replace hg7:=iteF hg7
   cases hg7
   cases hv1
   exact wt Q1 Q0 rfl
  cases hg1
  obtain ⟨c2,hg8,hv1⟩:=bindS hv1
  replace hg8:=iteF hg8
  cases hg8
  obtain ⟨c3,hg9,hv1⟩:=bindS hv1
  replace hg9:=iteF hg9
  cases hg9
  obtain ⟨c4,hg10,hv1⟩:=bindS hv1
  replace hg10:=iteF hg10
  cases hg10
  cases hv1
  exact wt Q1 Q0 rfl
 refine rt ?_
 cases h
 exact Fz.v
theorem wo_pack_Int {p_n} {r} (h:pack_Int p_n=some r):POwn Tryz.prog 98 [(vi p_n)] 5 1 (mU r):=by
 refine pw Tryz.tok 27 Tryz.func98 (by kernel_rfl) rfl rfl rfl ?_
 unfold pack_Int at h
 refine wE [(0,vi p_n)] Q1 ?_
 refine sg ?_
 refine wE [(0,vi p_n)] Q1 ?_
 refine sg ?_
 refine wE [(0,vi p_n),(3,.v (.slice none 0 0))] Q2 ?_
 refine sg ?_
 refine ⟨_,rfl,(by decide),_,rfl,(by decide),_,rfl,_,rfl,_,rfl,?_⟩
 refine wE [(3,.v (.slice none 0 0)),(4,.v (.int .u64 (xorK .u64 (shlK .u64 (IntKind.u64.wrap p_n) (1)) (IntKind.u64.wrap (shrK .i64 p_n (63))))))] Q2 ?_
 obtain ⟨v1,hv1,h⟩:=bindS h
 refine Ok.seqw ⟨Cat.tab [(3,.o 21),(4,.v (.int .u64 v1.1))],[(21,.own 5 1 (mU v1.2))]⟩ ?_ ?_
 ·refine bl ?_
  refine Ok.loop (fun (s1:Int×(List UInt8))=>⟨Cat.tab [(3,.o 21),(4,.v (.int .u64 s1.1))],[(21,.own 5 1 (mU s1.2))]⟩) (pack_Int_B1) (s0:=((xorK .u64 (shlK .u64 (IntKind.u64.wrap p_n) (1)) (IntKind.u64.wrap (shrK .i64 p_n (63)))),[])) hv1 ((Wk.own0 (t:=3) (id:=21) (E:=5) (K:=1) rfl rfl).trans (wt Q2 ⟨⟨_,rfl,.refl _⟩,Q0⟩ rfl)) ?_
  intro s1 y1 hB1 hy1
  unfold pack_Int_B1 at hB1
  refine sq ?_
  refine sg ?_
  refine wT [(3,.o 21),(4,.v (.int .u64 s1.1)),(13,vb (decide (s1.1≥128)))] [(21,.own 5 1 (mU s1.2))] Q3 J1 rfl ?_
  refine cn 13 (decide (s1.1≥128)) rfl hB1 (fun hb hB1=>?_) fun hb hB1=>?_
  ·refine sk ?_
   refine sq ?_
   refine bl ?_
   refine rg ?_
   obtain ⟨hc1,hB1⟩:=chk_some hB1
   refine ⟨_,toU8_wrap _,_,b8_or (toU8 s1.1) (128:UInt8),Or.inl ⟨rowsLen_map (f:=cU8) (n:=1) (fun _=>rfl) ([(toU8 s1.1) ||| (128:UInt8)]),app_b2 (f:=cU8) (l:=s1.2) (l':=[(toU8 s1.1) ||| (128:UInt8)]) hc1,_,(List.map_append (f:=cU8) (l₁:=s1.2) (l₂:=[(toU8 s1.1) ||| (128:UInt8)])).symm,?_⟩⟩
   refine wT [(3,.o 21),(4,.v (.int .u64 s1.1))] [(21,.own 5 1 (mU (s1.2++[(toU8 s1.1) ||| (128:UInt8)])))] Q2 J1 rfl ?_
   refine rg ?_
   refine ⟨(by decide),_,rfl,?_⟩
   exact ⟨_,sj hB1,wt Q2 J1 rfl⟩
  refine xt ?_
  have hB1:=out_ret hB1 hy1
  cases hB1
  exact wt Q2 J1 rfl
 refine sg ?_
 obtain ⟨hc2,h⟩:=chk_some h
 refine ⟨_,toU8_wrap _,Or.inl ⟨rowsLen_map (f:=cU8) (n:=1) (fun _=>rfl) ([toU8 v1.1]),app_b2 (f:=cU8) (l:=v1.2) (l':=[toU8 v1.1]) hc2,_,(List.map_append (f:=cU8) (l₁:=v1.2) (l₂:=[toU8 v1.1])).symm,?_⟩⟩
 refine wT [(2,.o 21)] [(21,.own 5 1 (mU (v1.2++[toU8 v1.1])))] Q1 J1 rfl ?_
 refine rt ?_
 cases h
 exact (.inr ⟨_,rfl,rfl⟩)
theorem w_pack_Int {p_n} {r} (h:pack_Int p_n=some r):Pure Tryz.prog 98 [(vi p_n)] (.s (mU r)):=(wo_pack_Int h).pure
theorem wo_pack_Str {p_s} {r} (h:pack_Str p_s=some r):POwn Tryz.prog 99 [(vs p_s)] 5 1 (mU r):=by
 refine pw Tryz.tok 8 Tryz.func99 (by kernel_rfl) rfl rfl rfl ?_
 unfold pack_Str at h
 refine wE [(0,vs p_s)] Q1 ?_
 refine sg ?_
 refine wE [(0,vs p_s)] Q1 ?_
 refine sg ?_
 obtain ⟨x1,hx1,h⟩:=bindS h
 refine ⟨_,str_size _,?_⟩
 refine CallOk.own (D:=5) (wo_pack_Int hx1) (LeL.refl _) rfl ?_
 obtain ⟨hc1,h⟩:=chk_some h
 refine ⟨rowsLen_map (f:=cU8) (n:=1) (fun _=>rfl) p_s,app_b2 (f:=cU8) (l:=x1) (l':=p_s) hc1,_,(List.map_append (f:=cU8) (l₁:=x1) (l₂:=p_s)).symm,?_⟩
 refine wT [(2,.o 5)] [(5,.own 5 1 (mU (x1++p_s)))] Q1 J1 rfl ?_
 refine rt ?_
 cases h
 exact (.inr ⟨_,rfl,rfl⟩)
theorem w_pack_Str {p_s} {r} (h:pack_Str p_s=some r):Pure Tryz.prog 99 [(vs p_s)] (.s (mU r)):=(wo_pack_Str h).pure
theorem wo_packN2 {p_l} {r} (h:packN18 p_l=some r):POwn Tryz.prog 126 [(.s (mI p_l))] 5 1 (mU r):=by
 refine pw Tryz.tok 18 Tryz.func126 (by kernel_rfl) rfl rfl rfl ?_
 unfold packN18 at h
 refine wE [(0,.s (mI p_l))] Q1 ?_
 refine sg ?_
 refine wE [(0,.s (mI p_l))] Q1 ?_
 refine sg ?_
 refine wE [(0,.s (mI p_l)),(3,.v (.slice none 0 0))] Q2 ?_
 obtain ⟨v1,hv1,h⟩:=bindS h
 refine Ok.seqw ⟨Cat.tab [(3,.o 15)],[(15,.own 5 1 (mU v1))]⟩ ?_ ?_
 ·refine sg ?_
  refine ⟨_,List.length_map _,fun _=>?_⟩
  refine wE [(3,.v (.slice none 0 0)),(6,.s (mI p_l)),(7,vi (p_l.length:Int)),(8,vi (0))] Q4 ?_
  refine bl ?_
  refine Ok.loop (fun (s1:Int×(List UInt8))=>⟨Cat.tab [(3,.o 15),(6,.s (mI p_l)),(7,vi (p_l.length:Int)),(8,vi s1.1)],[(15,.own 5 1 (mU s1.2))]⟩) (packN20 p_l) (s0:=(0,[])) hv1 ((Wk.own0 (t:=3) (id:=15) (E:=5) (K:=1) rfl rfl).trans (wt Q4 ⟨⟨_,rfl,.refl _⟩,Q0⟩ rfl)) ?_
  intro s1 y1 hB1 hy1
  unfold packN20 at hB1
  refine sg ?_
  refine wT [(3,.o 15),(6,.s (mI p_l)),(7,vi (p_l.length:Int)),(8,vi s1.1),(9,vb (decide (s1.1 < (p_l.length:Int))))] [(15,.own 5 1 (mU s1.2))] Q5 J1 rfl ?_
  refine sq ?_
  refine cn 9 (decide (s1.1 < (p_l.length:Int))) rfl hB1 (fun hb hB1=>?_) fun hb hB1=>?_
  ·refine sk ?_
   refine sq ?_
   refine bl ?_
   refine sg ?_
   obtain ⟨x1,hx1,hB1⟩:=bindS hB1
   refine ⟨_,idx_nat hx1,_,idx_row hx1,_,rfl,?_⟩
   refine wT [(3,.o 15),(5,vi x1),(6,.s (mI p_l)),(7,vi (p_l.length:Int)),(8,vi s1.1)] [(15,.own 5 1 (mU s1.2))] Q5 J1 rfl ?_
   refine rg ?_
   obtain ⟨x2,hx2,hB1⟩:=bindS hB1
   refine CallOk.call (w_pack_Int hx2) (LeL.refl _) ?_
   obtain ⟨hc1,hB1⟩:=chk_some hB1
   refine ⟨rowsLen_map (f:=cU8) (n:=1) (fun _=>rfl) x2,app_b2 (f:=cU8) (l:=s1.2) (l':=x2) hc1,_,(List.map_append (f:=cU8) (l₁:=s1.2) (l₂:=x2)).symm,?_⟩
   refine wT [(3,.o 15),(6,.s (mI p_l)),(7,vi (p_l.length:Int)),(8,vi s1.1)] [(15,.own 5 1 (mU (s1.2++x2)))] Q4 J1 rfl ?_
   refine rg ?_
   obtain ⟨hc2,hB1⟩:=chk_some hB1
   refine (Or.inl ⟨hc2,?_⟩)
   exact ⟨_,sj hB1,wt Q4 J1 rfl⟩
  refine xt ?_
  have hB1:=out_ret hB1 hy1
  cases hB1
  exact wt Q1 J1 rfl
 refine sg ?_
 refine wT [(2,.o 15)] [(15,.own 5 1 (mU v1))] Q1 J1 rfl ?_
 refine rt ?_
 cases h
 exact (.inr ⟨_,rfl,rfl⟩)
theorem w_packN4 {p_l} {r} (h:packN18 p_l=some r):Pure Tryz.prog 126 [(.s (mI p_l))] (.s (mU r)):=(wo_packN2 h).pure
theorem wo_packN1 {p_l} {r} (h:pack_Ints p_l=some r):POwn Tryz.prog 100 [(.s (mI p_l))] 5 1 (mU r):=by
 refine pw Tryz.tok 9 Tryz.func100 (by kernel_rfl) rfl rfl rfl ?_
 unfold pack_Ints at h
 refine wE [(0,.s (mI p_l))] Q1 ?_
 refine sg ?_
 refine wE [(0,.s (mI p_l))] Q1 ?_
 refine sg ?_
 obtain ⟨x1,hx1,h⟩:=bindS h
 refine ⟨_,List.length_map _,fun _=>?_⟩
 refine CallOk.own (D:=5) (wo_pack_Int hx1) (LeL.refl _) rfl ?_
 obtain ⟨x2,hx2,h⟩:=bindS h
 refine CallOk.call (w_packN4 hx2) (LeL.refl _) ?_
 obtain ⟨hc1,h⟩:=chk_some h
 refine ⟨rowsLen_map (f:=cU8) (n:=1) (fun _=>rfl) x2,app_b2 (f:=cU8) (l:=x1) (l':=x2) hc1,_,(List.map_append (f:=cU8) (l₁:=x1) (l₂:=x2)).symm,?_⟩
 refine wT [(2,.o 5)] [(5,.own 5 1 (mU (x1++x2)))] Q1 J1 rfl ?_
 refine rt ?_
 cases h
 exact (.inr ⟨_,rfl,rfl⟩)
theorem w_pack_Ints {p_l} {r} (h:pack_Ints p_l=some r):Pure Tryz.prog 100 [(.s (mI p_l))] (.s (mU r)):=(wo_packN1 h).pure
theorem wo_slicesN8 {p_n} {r} (h:slicesN42 p_n=some r):POwn Tryz.prog 125 [(.v (.slice none 0 0)),(vi p_n)] 5 1 (mU r):=by
 refine pw Tryz.tok 27 Tryz.func125 (by kernel_rfl) rfl rfl rfl ?_
 unfold slicesN42 at h
 refine wE [(0,.v (.slice none 0 0)),(1,vi p_n)] Q2 ?_
 refine sg ?_
 refine wE [(0,.v (.slice none 0 0)),(1,vi p_n)] Q2 ?_
 obtain ⟨v1,hv1,h⟩:=bindS h
 refine Ok.seqw ⟨Cat.tab [(0,.v (.slice none 0 0)),(1,vi p_n)],[]⟩ ?_ ?_
 ·refine sg ?_
  refine wE [(0,.v (.slice none 0 0)),(1,vi p_n),(6,vb (decide (p_n < 0)))] Q3 ?_
  refine cn 6 (decide (p_n < 0)) rfl hv1 (fun hb hv1=>?_) fun hb hv1=>?_
  ·cases hv1
  refine sk ?_
  cases hv1
  exact wt Q2 Q0 rfl
 obtain ⟨v2,hv2,h⟩:=bindS h
 refine Ok.seqw ⟨Cat.tab [(0,.o 22)],[(22,.own 5 1 (mU v2))]⟩ ?_ ?_
 ·refine sg ?_
  obtain ⟨hc1,hv2⟩:=chk_some hv2
  refine (Or.inl ⟨by decide,(Or.inl ⟨hc1,?_⟩)⟩)
  refine wE [(0,.v (.slice none 0 0)),(1,vi (p_n - 0))] Q2 ?_
  refine sg ?_
  refine wE [(0,.v (.slice none 0 0)),(1,vi (p_n - 0)),(16,vb (decide ((p_n - 0) > 0)))] Q3 ?_
  refine cn 16 (decide ((p_n - 0) > 0)) rfl hv2 (fun hb hv2=>?_) fun hb hv2=>?_
  ·refine rg ?_
   obtain ⟨hc2,hv2⟩:=chk_some hv2
   obtain ⟨hc3,hv2⟩:=chk_some hv2
   refine ⟨0,rfl,Nat.le_refl _,Nat.le_refl _,_,mk_nat hc2,hc2.2,_,(List.map_replicate (f:=cU8) (a:=(0:UInt8))).symm,_,sl_nat hc3.1,sl_own hc3,_,(List.map_take (f:=cU8)).symm,?_⟩
   cases hv2
   exact wt Q1 J1 rfl
  refine sk ?_
  cases hv2
  exact (Wk.own0 (t:=0) (id:=22) (E:=5) (K:=1) rfl rfl).trans (wt Q1 ⟨⟨_,rfl,.refl _⟩,Q0⟩ rfl)
 refine sg ?_
 refine wT [(4,.o 22)] [(22,.own 5 1 (mU v2))] Q1 J1 rfl ?_
 refine rt ?_
 cases h
 exact (.inr ⟨_,rfl,rfl⟩)
theorem wo_slicesN6 {p_slices} {r} (h:slicesN19 p_slices=some r):POwn Tryz.prog 97 [(.s (mC p_slices))] 5 1 (mU r):=by
 refine pw Tryz.tok 36 Tryz.func97 (by kernel_rfl) rfl rfl rfl ?_
 unfold slicesN19 at h
 refine wE [(0,.s (mC p_slices))] Q1 ?_
 refine sg ?_
 refine wE [(0,.s (mC p_slices))] Q1 ?_
 refine sg ?_
 refine wE [(0,.s (mC p_slices)),(3,vi (0))] Q2 ?_
 obtain ⟨v1,hv1,h⟩:=bindS h
 refine Ok.seqw ⟨Cat.tab [(0,.s (mC p_slices)),(3,vi v1)],[]⟩ ?_ ?_
 ·refine sg ?_
  refine ⟨_,List.length_map _,fun _=>?_⟩
  refine wE [(0,.s (mC p_slices)),(3,vi (0)),(9,.s (mC p_slices)),(10,vi (p_slices.length:Int)),(11,vi (0))] Q5 ?_
  refine bl ?_
  refine Ok.loop (fun (s1:Int×Int)=>⟨Cat.tab [(0,.s (mC p_slices)),(3,vi s1.1),(9,.s (mC p_slices)),(10,vi (p_slices.length:Int)),(11,vi s1.2)],[]⟩) (slicesN21 p_slices) (s0:=(0,0)) hv1 (wt Q5 Q0 rfl) ?_
  intro s1 y1 hB1 hy1
  unfold slicesN21 at hB1
  refine sg ?_
  refine wE [(0,.s (mC p_slices)),(3,vi s1.1),(9,.s (mC p_slices)),(10,vi (p_slices.length:Int)),(11,vi s1.2),(12,vb (decide (s1.2 < (p_slices.length:Int))))] Q6 ?_
  refine sq ?_
  refine cn 12 (decide (s1.2 < (p_slices.length:Int))) rfl hB1 (fun hb hB1=>?_) fun hb hB1=>?_
  ·refine sk ?_
   obtain ⟨v2,hv2,hB1⟩:=bindS hB1
   refine Ok.seqw ⟨Cat.tab [(0,.s (mC p_slices)),(3,vi v2),(9,.s (mC p_slices)),(10,vi (p_slices.length:Int)),(11,vi s1.2)],[]⟩ ?_ ?_
   ·refine bl ?_
    refine sg ?_
    obtain ⟨x1,hx1,hv2⟩:=bindS hv2
    refine ⟨_,idx_nat hx1,_,idx_row hx1,_,rfl,?_⟩
    refine wE [(0,.s (mC p_slices)),(3,vi s1.1),(5,.s (mU x1)),(9,.s (mC p_slices)),(10,vi (p_slices.length:Int)),(11,vi s1.2)] Q6 ?_
    refine sg ?_
    obtain ⟨hc1,hv2⟩:=chk_some hv2
    refine ⟨_,List.length_map _,fun _=>(Or.inl ⟨hc1,?_⟩)⟩
    refine wE [(0,.s (mC p_slices)),(3,vi (s1.1+(x1.length:Int))),(9,.s (mC p_slices)),(10,vi (p_slices.length:Int)),(11,vi s1.2)] Q5 ?_
    refine sg ?_
    refine wE [(0,.s (mC p_slices)),(3,vi (s1.1+(x1.length:Int))),(9,.s (mC p_slices)),(10,vi (p_slices.length:Int)),(11,vi s1.2),(20,vb (decide ((s1.1+(x1.length:Int)) < 0)))] Q6 ?_
    refine cn 20 (decide ((s1.1+(x1.length:Int)) < 0)) rfl hv2 (fun hb hv2=>?_) fun hb hv2=>?_
    ·cases hv2
    refine sk ?_
    cases hv2
    exact wt Q5 Q0 rfl
   refine rg ?_
   obtain ⟨hc2,hB1⟩:=chk_some hB1
   refine (Or.inl ⟨hc2,?_⟩)
   exact ⟨_,sj hB1,wt Q5 Q0 rfl⟩
  refine xt ?_
  have hB1:=out_ret hB1 hy1
  cases hB1
  exact wt Q2 Q0 rfl
 refine sg ?_
 obtain ⟨x2,hx2,h⟩:=bindS h
 refine CallOk.own (D:=24) (wo_slicesN8 hx2) (LeL.refl _) rfl ?_
 refine wT [(0,.s (mC p_slices)),(6,.o 24)] [(24,.own 5 1 (mU x2))] Q2 J1 rfl ?_
 obtain ⟨v3,hv3,h⟩:=bindS h
 refine Ok.seqw ⟨Cat.tab [(6,.o 24)],[(24,.own 5 1 (mU v3))]⟩ ?_ ?_
 ·refine sg ?_
  refine ⟨_,List.length_map _,fun _=>?_⟩
  refine wT [(6,.o 24),(25,.s (mC p_slices)),(26,vi (p_slices.length:Int)),(27,vi (0))] [(24,.own 5 1 (mU x2))] Q4 J1 rfl ?_
  refine bl ?_
  refine Ok.loop (fun (s2:Int×(List UInt8))=>⟨Cat.tab [(6,.o 24),(25,.s (mC p_slices)),(26,vi (p_slices.length:Int)),(27,vi s2.1)],[(24,.own 5 1 (mU s2.2))]⟩) (slicesN23 p_slices) (s0:=(0,x2)) hv3 (wt Q4 ⟨⟨_,rfl,.refl _⟩,Q0⟩ rfl) ?_
  intro s2 y2 hB2 hy2
  unfold slicesN23 at hB2
  refine sg ?_
  refine wT [(6,.o 24),(25,.s (mC p_slices)),(26,vi (p_slices.length:Int)),(27,vi s2.1),(28,vb (decide (s2.1 < (p_slices.length:Int))))] [(24,.own 5 1 (mU s2.2))] Q5 J1 rfl ?_
  refine sq ?_
  refine cn 28 (decide (s2.1 < (p_slices.length:Int))) rfl hB2 (fun hb hB2=>?_) fun hb hB2=>?_
  ·refine sk ?_
   refine sq ?_
   refine bl ?_
   refine sg ?_
   obtain ⟨x3,hx3,hB2⟩:=bindS hB2
   refine ⟨_,idx_nat hx3,_,idx_row hx3,_,rfl,?_⟩
   refine wT [(6,.o 24),(8,.s (mU x3)),(25,.s (mC p_slices)),(26,vi (p_slices.length:Int)),(27,vi s2.1)] [(24,.own 5 1 (mU s2.2))] Q5 J1 rfl ?_
   refine rg ?_
   obtain ⟨hc3,hB2⟩:=chk_some hB2
   refine ⟨rowsLen_map (f:=cU8) (n:=1) (fun _=>rfl) x3,app_b2 (f:=cU8) (l:=s2.2) (l':=x3) hc3,_,(List.map_append (f:=cU8) (l₁:=s2.2) (l₂:=x3)).symm,?_⟩
   refine wT [(6,.o 24),(25,.s (mC p_slices)),(26,vi (p_slices.length:Int)),(27,vi s2.1)] [(24,.own 5 1 (mU (s2.2++x3)))] Q4 J1 rfl ?_
   refine rg ?_
   obtain ⟨hc4,hB2⟩:=chk_some hB2
   refine (Or.inl ⟨hc4,?_⟩)
   exact ⟨_,sj hB2,wt Q4 J1 rfl⟩
  refine xt ?_
  have hB2:=out_ret hB2 hy2
  cases hB2
  exact wt Q1 J1 rfl
 refine sg ?_
 refine wT [(2,.o 24)] [(24,.own 5 1 (mU v3))] Q1 J1 rfl ?_
 refine rt ?_
 cases h
 exact (.inr ⟨_,rfl,rfl⟩)
theorem w_sum_Of {p_b} {r} (h:sum_Of p_b=some r):Pure Tryz.prog 101 [(.s (mU p_b))] (vi r):=by
 refine po Tryz.tok 6 Tryz.func101 (by kernel_rfl) rfl rfl rfl ?_
 unfold sum_Of at h
 refine wE [(0,.s (mU p_b))] Q1 ?_
 refine sg ?_
 refine wE [(0,.s (mU p_b))] Q1 ?_
 refine sg ?_
 obtain ⟨x1,hx1,h⟩:=bindS h
 refine CallOk.call (w_sum_half hx1) (LeL.refl _) ?_
 obtain ⟨x2,hx2,h⟩:=bindS h
 refine CallOk.call (w_sum_of hx2) (LeL.refl _) ?_
 refine wE [(2,vi x2)] Q1 ?_
 refine rt ?_
 cases h
 exact Fz.v
theorem wo_chunkN1 {p_c} {r} (h:chunk_page p_c=some r):POwn Tryz.prog 71 [(.a [(vi p_c.Id),(vi p_c.Ver),(.s (mU p_c.Data)),(.s (mI p_c.Sums))])] 5 1 (mU r):=by
 refine pw Tryz.tok 36 Tryz.func71 (by kernel_rfl) rfl rfl rfl ?_
 unfold chunk_page at h
 refine wE [(0,.a [vi p_c.Id,vi p_c.Ver,.s (mU p_c.Data),.s (mI p_c.Sums)])] Q1 ?_
 refine sg ?_
 refine wT [(1,.b 1 0)] [(1,.box [vi p_c.Id,vi p_c.Ver,.s (mU p_c.Data),.s (mI p_c.Sums)])] Q1 J1 rfl ?_
 refine sq ?_
 refine Ok.draw (m:=14) (MD:=⟨[]⟩) (CH:=⟨[]⟩) Tryz.tok Tryz.mixed (by kernel_rfl) ?_
 obtain ⟨x1,hx1,h⟩:=bindS h
 obtain ⟨x2,hx2,h⟩:=bindS h
 obtain ⟨x3,hx3,h⟩:=bindS h
 obtain ⟨x4,hx4,h⟩:=bindS h
 obtain ⟨x5,hx5,h⟩:=bindS h
 refine ⟨_,rfl,_,⟨_,rfl,rfl⟩,_,⟨_,.of_pure (w_pack_Int hx1) (LeL.refl _),rfl⟩,_,rfl,_,⟨_,rfl,rfl⟩,_,⟨_,.of_pure (w_pack_Int hx2) (LeL.refl _),rfl⟩,_,rfl,_,⟨_,rfl,rfl⟩,_,⟨_,rfl,rfl⟩,_,⟨_,.of_pure (w_pack_Str hx3) (LeL.refl _),rfl⟩,_,rfl,_,⟨_,rfl,rfl⟩,_,⟨_,.of_pure (w_pack_Ints hx4) (LeL.refl _),rfl⟩,_,rfl,Q0,?_⟩
 refine CallOk.own (D:=20) (wo_slicesN6 hx5) (LeL.refl _) rfl ?_
 refine wT [(3,.o 20)] [(20,.own 5 1 (mU x5))] Q1 J1 rfl ?_
 refine sg ?_
 obtain ⟨x6,hx6,h⟩:=bindS h
 refine CallOk.borrow (w_sum_Of hx6) (.cons (Fz.o rfl) (.nil)) rfl ?_
 refine wT [(3,.o 20),(4,vi x6)] [(20,.own 5 1 (mU x5))] Q2 J1 rfl ?_
 obtain ⟨v1,hv1,h⟩:=bindS h
 refine Ok.seqw ⟨Cat.tab [(3,.o 20)],[(20,.own 5 1 (mU v1))]⟩ ?_ ?_
 ·refine sg ?_
  refine wT [(3,.o 20),(4,vi x6),(23,vi (0))] [(20,.own 5 1 (mU x5))] Q3 J1 rfl ?_
  refine bl ?_
  refine Ok.loop (fun (s1:Int×(List UInt8))=>⟨Cat.tab [(3,.o 20),(4,vi x6),(23,vi s1.1)],[(20,.own 5 1 (mU s1.2))]⟩) (chunkN1 x6) (s0:=(0,x5)) hv1 (wt Q3 ⟨⟨_,rfl,.refl _⟩,Q0⟩ rfl) ?_
  intro s1 y1 hB1 hy1
  unfold chunkN1 at hB1
  refine sg ?_
  refine wT [(3,.o 20),(4,vi x6),(23,vi s1.1),(24,vb (decide (s1.1 < 4)))] [(20,.own 5 1 (mU s1.2))] Q4 J1 rfl ?_
  refine sq ?_
  refine cn 24 (decide (s1.1 < 4)) rfl hB1 (fun hb hB1=>?_) fun hb hB1=>?_
  ·refine sk ?_
   refine sq ?_
   refine bl ?_
   refine sg ?_
   refine wT [(3,.o 20),(4,vi x6),(5,vi s1.1),(23,vi s1.1)] [(20,.own 5 1 (mU s1.2))] Q4 J1 rfl ?_
   refine rg ?_
   obtain ⟨hc1,hB1⟩:=chk_some hB1
   obtain ⟨hc2,hB1⟩:=chk_some hB1
   obtain ⟨hc3,hB1⟩:=chk_some hB1
   refine (Or.inl ⟨hc1,hc2,_,rfl,_,toU8_wrap _,Or.inl ⟨rowsLen_map (f:=cU8) (n:=1) (fun _=>rfl) ([toU8 (shrK .i64 x6 (8 * s1.1))]),app_b2 (f:=cU8) (l:=s1.2) (l':=[toU8 (shrK .i64 x6 (8 * s1.1))]) hc3,_,(List.map_append (f:=cU8) (l₁:=s1.2) (l₂:=[toU8 (shrK .i64 x6 (8 * s1.1))])).symm,?_⟩⟩)
   refine wT [(3,.o 20),(4,vi x6),(23,vi s1.1)] [(20,.own 5 1 (mU (s1.2++[toU8 (shrK .i64 x6 (8 * s1.1))])))] Q3 J1 rfl ?_
   refine rg ?_
   obtain ⟨hc4,hB1⟩:=chk_some hB1
   refine (Or.inl ⟨hc4,?_⟩)
   exact ⟨_,sj hB1,wt Q3 J1 rfl⟩
  refine xt ?_
  have hB1:=out_ret hB1 hy1
  cases hB1
  exact wt Q1 J1 rfl
 refine sg ?_
 refine wT [(2,.o 20)] [(20,.own 5 1 (mU v1))] Q1 J1 rfl ?_
 refine rt ?_
 cases h
 exact (.inr ⟨_,rfl,rfl⟩)
theorem w_chunkN1 {p_c} {r} (h:chunk_page p_c=some r):Pure Tryz.prog 71 [(.a [(vi p_c.Id),(vi p_c.Ver),(.s (mU p_c.Data)),(.s (mI p_c.Sums))])] (.s (mU r)):=(wo_chunkN1 h).pure
theorem w_disk_may {p_at} {p_data} {r} (h:disk_may p_at p_data=some r):Pure Tryz.prog 114 [(vi p_at),(.s (mU p_data))] (vb r):=by
 refine po Tryz.tok 16 Tryz.func114 (by kernel_rfl) rfl rfl rfl ?_
 unfold disk_may at h
 refine wE [(0,vi p_at),(1,.s (mU p_data))] Q2 ?_
 refine sg ?_
 refine wE [(0,vi p_at),(1,.s (mU p_data))] Q2 ?_
 obtain ⟨v1,hv1,h⟩:=bindS h
 refine Ok.seqw ⟨Cat.tab [(4,vb v1)],[]⟩ ?_ ?_
 ·refine rg ?_
  obtain ⟨c1,hg1,hv1⟩:=bindS hv1
  refine Br.ite hg1 (fun hb hg1=>?_) fun hb hg1=>?_
  ·cases hg1
   obtain ⟨c2,hg2,hv1⟩:=bindS hv1
   refine Br.ite hg2 (fun hb hg2=>?_) fun hb hg2=>?_
   ·refine ⟨_,List.length_map _,fun _=>?_⟩
    cases hg2
    cases hv1
    exact wt Q1 Q0 rfl
   cases hg2
   cases hv1
   exact wt Q1 Q0 rfl
  cases hg1
  obtain ⟨c2,hg3,hv1⟩:=bindS hv1
  replace hg3:=iteF hg3
  cases hg3
  cases hv1
  exact wt Q1 Q0 rfl
 refine rt ?_
 cases h
 exact Fz.v
theorem wo_slicesN2 {p_s} {r} (h:slicesN3 p_s=some r):POwn Tryz.prog 82 [(.s (mB p_s))] 110 2 (mB r):=by
 refine pw Tryz.tok 8 Tryz.func82 (by kernel_rfl) rfl rfl rfl ?_
 unfold slicesN3 at h
 refine wE [(0,.s (mB p_s))] Q1 ?_
 refine sg ?_
 refine wE [(0,.s (mB p_s))] Q1 ?_
 refine sq ?_
 refine sg ?_
 intro b1 hb1
 have h:=anyOf_some h b1 (fun e=>List.map_eq_nil_iff.1 (hb1 e))
 refine wE [(0,.s (mB p_s)),(4,vb b1)] Q2 ?_
 refine cn 4 (b1) rfl h (fun hb h=>?_) fun hb h=>?_
 ·refine sg ?_
  refine wE [(2,.v (.slice none 0 0))] Q1 ?_
  refine rt ?_
  cases h
  exact (.inl ⟨rfl,rfl⟩)
 refine sk ?_
 refine sg ?_
 obtain ⟨hc1,h⟩:=chk_some h
 refine Or.inr ⟨rowsLen_map (f:=c_api_Page) (n:=2) (fun _=>rfl) p_s,app_b2 (f:=c_api_Page) (l:=([]:List api_Page)) (l':=p_s) hc1,_,(List.map_append (f:=c_api_Page) (l₁:=([]:List api_Page)) (l₂:=p_s)).symm,?_⟩
 refine wT [(2,.o 5)] [(5,.own 110 2 (mB (([]:List api_Page)++p_s)))] Q1 J1 rfl ?_
 refine rt ?_
 cases h
 exact (.inr ⟨_,rfl,rfl⟩)
theorem wo_bytesN1 {p_b} {r} (h:bytes_Clone p_b=some r):POwn Tryz.prog 81 [(.s (mU p_b))] 5 1 (mU r):=by
 refine pw Tryz.tok 8 Tryz.func81 (by kernel_rfl) rfl rfl rfl ?_
 unfold bytes_Clone at h
 refine wE [(0,.s (mU p_b))] Q1 ?_
 refine sg ?_
 refine wE [(0,.s (mU p_b))] Q1 ?_
 refine sq ?_
 refine sg ?_
 intro b1 hb1
 have h:=anyOf_some h b1 (fun e=>List.map_eq_nil_iff.1 (hb1 e))
 refine wE [(0,.s (mU p_b)),(4,vb b1)] Q2 ?_
 refine cn 4 (b1) rfl h (fun hb h=>?_) fun hb h=>?_
 ·refine sg ?_
  refine wE [(2,.v (.slice none 0 0))] Q1 ?_
  refine rt ?_
  cases h
  exact (.inl ⟨rfl,rfl⟩)
 refine sk ?_
 refine sg ?_
 obtain ⟨hc1,h⟩:=chk_some h
 refine Or.inr ⟨rowsLen_map (f:=cU8) (n:=1) (fun _=>rfl) p_b,app_b2 (f:=cU8) (l:=([]:List UInt8)) (l':=p_b) hc1,_,(List.map_append (f:=cU8) (l₁:=([]:List UInt8)) (l₂:=p_b)).symm,?_⟩
 refine wT [(2,.o 5)] [(5,.own 5 1 (mU (([]:List UInt8)++p_b)))] Q1 J1 rfl ?_
 refine rt ?_
 cases h
 exact (.inr ⟨_,rfl,rfl⟩)
theorem w_bytesN1 {p_b} {r} (h:bytes_Clone p_b=some r):Pure Tryz.prog 81 [(.s (mU p_b))] (.s (mU r)):=(wo_bytesN1 h).pure
theorem w_diskN4 {p_d} {p_at} {p_data} {r} (h:disk_Write p_d p_at p_data=some r):Pure Tryz.prog 83 [(.a [(.s (mB p_d.Synced)),(.s (mB p_d.Loose)),(vb p_d.Down)]),(vi p_at),(.s (mU p_data))] (.t [(.a [(.s (mB r.1.Synced)),(.s (mB r.1.Loose)),(vb r.1.Down)]),(vi r.2)]):=by
 refine po Tryz.tok 29 Tryz.func83 (by kernel_rfl) rfl rfl rfl ?_
 unfold disk_Write at h
 refine wE [(0,.a [.s (mB p_d.Synced),.s (mB p_d.Loose),vb p_d.Down]),(1,vi p_at),(2,.s (mU p_data))] Q3 ?_
 refine sg ?_
 refine wT [(1,vi p_at),(2,.s (mU p_data)),(3,.b 3 0),(6,.b 6 0)] [(3,.box [.s (mB p_d.Synced),.s (mB p_d.Loose),vb p_d.Down]),(6,.box [.v (.slice none 0 0),.v (.slice none 0 0),vb false])] Q4 J2 rfl ?_
 refine sq ?_
 refine bl ?_
 refine sg ?_
 refine ⟨_,rfl,?_⟩
 refine wT [(1,vi p_at),(2,.s (mU p_data)),(3,.b 3 0),(6,.b 6 0),(8,vb p_d.Down)] [(3,.box [.s (mB p_d.Synced),.s (mB p_d.Loose),vb p_d.Down]),(6,.box [.v (.slice none 0 0),.v (.slice none 0 0),vb false])] Q5 J2 rfl ?_
 refine cn 8 (p_d.Down) rfl h (fun hb h=>?_) fun hb h=>?_
 ·refine sg ?_
  refine ⟨_,rfl,_,rfl,?_⟩
  refine wT [(6,.b 6 0),(7,vi (40))] [(6,.box [.s (mB p_d.Synced),.s (mB p_d.Loose),vb p_d.Down])] Q2 J1 rfl ?_
  refine rt ?_
  cases h
  exact ⟨_,rfl,(Fz.t (.cons (Fz.imm rfl) (.cons Fz.v .nil)))⟩
 refine sg ?_
 obtain ⟨x1,hx1,h⟩:=bindS h
 refine CallOk.call (w_disk_may hx1) (LeL.refl _) ?_
 refine wT [(1,vi p_at),(2,.s (mU p_data)),(3,.b 3 0),(6,.b 6 0),(12,vb (!x1))] [(3,.box [.s (mB p_d.Synced),.s (mB p_d.Loose),vb p_d.Down]),(6,.box [.v (.slice none 0 0),.v (.slice none 0 0),vb false])] Q5 J2 rfl ?_
 refine cn 12 (!x1) rfl h (fun hb h=>?_) fun hb h=>?_
 ·refine sg ?_
  refine ⟨_,rfl,_,rfl,?_⟩
  refine wT [(6,.b 6 0),(7,vi (1))] [(6,.box [.s (mB p_d.Synced),.s (mB p_d.Loose),vb p_d.Down])] Q2 J1 rfl ?_
  refine rt ?_
  cases h
  exact ⟨_,rfl,(Fz.t (.cons (Fz.imm rfl) (.cons Fz.v .nil)))⟩
 refine sk ?_
 refine sg ?_
 obtain ⟨x2,hx2,h⟩:=bindS h
 refine ⟨_,rfl,?_⟩
 refine CallOk.own (D:=20) (wo_slicesN2 hx2) (LeL.refl _) rfl ?_
 obtain ⟨x3,hx3,h⟩:=bindS h
 refine CallOk.call (w_bytesN1 hx3) (LeL.refl _) ?_
 obtain ⟨hc1,h⟩:=chk_some h
 refine Or.inl ⟨rowsLen_map (f:=c_api_Page) (n:=2) (fun _=>rfl) ([(⟨p_at,x3⟩:api_Page)]),app_b2 (f:=c_api_Page) (l:=x2) (l':=[(⟨p_at,x3⟩:api_Page)]) hc1,_,(List.map_append (f:=c_api_Page) (l₁:=x2) (l₂:=[(⟨p_at,x3⟩:api_Page)])).symm,_,rfl,?_⟩
 refine wT [(3,.b 3 0),(6,.b 6 0)] [(3,.box [.s (mB p_d.Synced),.o 20,vb p_d.Down]),(20,.own 110 2 (mB (x2++[(⟨p_at,x3⟩:api_Page)]))),(6,.box [.v (.slice none 0 0),.v (.slice none 0 0),vb false])] Q2 J3 rfl ?_
 refine sg ?_
 refine ⟨_,rfl,_,rfl,?_⟩
 refine wT [(6,.b 6 0),(7,vi (0))] [(6,.box [.s (mB p_d.Synced),.o 20,vb p_d.Down]),(20,.own 110 2 (mB (x2++[(⟨p_at,x3⟩:api_Page)])))] Q2 J2 rfl ?_
 refine rt ?_
 cases h
 exact ⟨_,rfl,(Fz.t (.cons (Fz.a (.cons Fz.s (.cons (Fz.o rfl) (.cons Fz.v .nil)))) (.cons Fz.v .nil)))⟩
theorem w_chunk_Put {p_d} {p_c} {r} (h:chunk_Put p_d p_c=some r):Pure Tryz.prog 60 [(.a [(.s (mB p_d.Synced)),(.s (mB p_d.Loose)),(vb p_d.Down)]),(.a [(vi p_c.Id),(vi p_c.Ver),(.s (mU p_c.Data)),(.s (mI p_c.Sums))])] (.t [(.a [(.s (mB r.1.Synced)),(.s (mB r.1.Loose)),(vb r.1.Down)]),(vi r.2)]):=by
 refine po Tryz.tok 18 Tryz.func60 (by kernel_rfl) rfl rfl rfl ?_
 unfold chunk_Put at h
 refine wE [(0,.a [.s (mB p_d.Synced),.s (mB p_d.Loose),vb p_d.Down]),(1,.a [vi p_c.Id,vi p_c.Ver,.s (mU p_c.Data),.s (mI p_c.Sums)])] Q2 ?_
 refine sg ?_
 refine sq ?_
 refine sg ?_
 obtain ⟨x1,hx1,h⟩:=bindS h
 refine ⟨_,rfl,?_⟩
 refine CallOk.call (w_chunk_may hx1) (LeL.refl _) ?_
 refine wT [(2,.b 2 0),(3,.b 3 0),(4,.b 4 0),(8,vb (!x1))] [(2,.box [.s (mB p_d.Synced),.s (mB p_d.Loose),vb p_d.Down]),(3,.box [vi p_c.Id,vi p_c.Ver,.s (mU p_c.Data),.s (mI p_c.Sums)]),(4,.box [.v (.slice none 0 0),.v (.slice none 0 0),vb false])] Q4 J3 rfl ?_
 refine cn 8 (!x1) rfl h (fun hb h=>?_) fun hb h=>?_
 ·refine sg ?_
  refine ⟨_,rfl,_,rfl,?_⟩
  refine wT [(4,.b 4 0),(5,vi (1))] [(4,.box [.s (mB p_d.Synced),.s (mB p_d.Loose),vb p_d.Down])] Q2 J1 rfl ?_
  refine rt ?_
  cases h
  exact ⟨_,rfl,(Fz.t (.cons (Fz.imm rfl) (.cons Fz.v .nil)))⟩
 refine sk ?_
 refine sq ?_
 refine Ok.draw (m:=8) (MD:=⟨[]⟩) (CH:=⟨[]⟩) Tryz.tok Tryz.mixed (by kernel_rfl) ?_
 obtain ⟨x2,hx2,h⟩:=bindS h
 obtain ⟨x3,hx3,h⟩:=bindS h
 refine ⟨_,⟨_,rfl,rfl⟩,_,rfl,_,⟨_,rfl,rfl⟩,_,⟨_,rfl,rfl⟩,_,⟨_,.of_pure (w_chunkN1 hx2) (LeL.refl _),rfl⟩,_,⟨_,.of_pure (w_diskN4 hx3) (LeL.refl _),rfl⟩,_,rfl,_,rfl,Q0,_,rfl,?_⟩
 refine wT [(4,.b 4 0),(5,vi x3.2)] [(4,.box [.s (mB x3.1.Synced),.s (mB x3.1.Loose),vb x3.1.Down])] Q2 J1 rfl ?_
 refine rt ?_
 cases h
 exact ⟨_,rfl,(Fz.t (.cons (Fz.imm rfl) (.cons Fz.v .nil)))⟩
theorem wo_slicesN7 {p_n} {r} (h:slicesN41 p_n=some r):POwn Tryz.prog 127 [(.v (.slice none 0 0)),(vi p_n)] 110 2 (mB r):=by
 refine pw Tryz.tok 27 Tryz.func127 (by kernel_rfl) rfl rfl rfl ?_
 unfold slicesN41 at h
 refine wE [(0,.v (.slice none 0 0)),(1,vi p_n)] Q2 ?_
 refine sg ?_
 refine wE [(0,.v (.slice none 0 0)),(1,vi p_n)] Q2 ?_
 obtain ⟨v1,hv1,h⟩:=bindS h
 refine Ok.seqw ⟨Cat.tab [(0,.v (.slice none 0 0)),(1,vi p_n)],[]⟩ ?_ ?_
 ·refine sg ?_
  refine wE [(0,.v (.slice none 0 0)),(1,vi p_n),(6,vb (decide (p_n < 0)))] Q3 ?_
  refine cn 6 (decide (p_n < 0)) rfl hv1 (fun hb hv1=>?_) fun hb hv1=>?_
  ·cases hv1
  refine sk ?_
  cases hv1
  exact wt Q2 Q0 rfl
 obtain ⟨v2,hv2,h⟩:=bindS h
 refine Ok.seqw ⟨Cat.tab [(0,.o 22)],[(22,.own 110 2 (mB v2))]⟩ ?_ ?_
 ·refine sg ?_
  obtain ⟨hc1,hv2⟩:=chk_some hv2
  refine (Or.inl ⟨by decide,(Or.inl ⟨hc1,?_⟩)⟩)
  refine wE [(0,.v (.slice none 0 0)),(1,vi (p_n - 0))] Q2 ?_
  refine sg ?_
  refine wE [(0,.v (.slice none 0 0)),(1,vi (p_n - 0)),(16,vb (decide ((p_n - 0) > 0)))] Q3 ?_
  refine cn 16 (decide ((p_n - 0) > 0)) rfl hv2 (fun hb hv2=>?_) fun hb hv2=>?_
  ·refine rg ?_
   obtain ⟨hc2,hv2⟩:=chk_some hv2
   obtain ⟨hc3,hv2⟩:=chk_some hv2
   refine ⟨0,rfl,Nat.le_refl _,Nat.le_refl _,_,mk_nat hc2,hc2.2,_,(List.map_replicate (f:=c_api_Page) (a:=((⟨0,[]⟩:api_Page):api_Page))).symm,_,sl_nat hc3.1,sl_own hc3,_,(List.map_take (f:=c_api_Page)).symm,?_⟩
   cases hv2
   exact wt Q1 J1 rfl
  refine sk ?_
  cases hv2
  exact (Wk.own0 (t:=0) (id:=22) (E:=110) (K:=2) rfl rfl).trans (wt Q1 ⟨⟨_,rfl,.refl _⟩,Q0⟩ rfl)
 refine sg ?_
 refine wT [(4,.o 22)] [(22,.own 110 2 (mB v2))] Q1 J1 rfl ?_
 refine rt ?_
 cases h
 exact (.inr ⟨_,rfl,rfl⟩)
theorem wo_slicesN5 {p_slices} {r} (h:slicesN9 p_slices=some r):POwn Tryz.prog 102 [(.s (mD p_slices))] 110 2 (mB r):=by
 refine pw Tryz.tok 36 Tryz.func102 (by kernel_rfl) rfl rfl rfl ?_
 unfold slicesN9 at h
 refine wE [(0,.s (mD p_slices))] Q1 ?_
 refine sg ?_
 refine wE [(0,.s (mD p_slices))] Q1 ?_
 refine sg ?_
 refine wE [(0,.s (mD p_slices)),(3,vi (0))] Q2 ?_
 obtain ⟨v1,hv1,h⟩:=bindS h
 refine Ok.seqw ⟨Cat.tab [(0,.s (mD p_slices)),(3,vi v1)],[]⟩ ?_ ?_
 ·refine sg ?_
  refine ⟨_,List.length_map _,fun _=>?_⟩
  refine wE [(0,.s (mD p_slices)),(3,vi (0)),(9,.s (mD p_slices)),(10,vi (p_slices.length:Int)),(11,vi (0))] Q5 ?_
  refine bl ?_
  refine Ok.loop (fun (s1:Int×Int)=>⟨Cat.tab [(0,.s (mD p_slices)),(3,vi s1.1),(9,.s (mD p_slices)),(10,vi (p_slices.length:Int)),(11,vi s1.2)],[]⟩) (slicesN11 p_slices) (s0:=(0,0)) hv1 (wt Q5 Q0 rfl) ?_
  intro s1 y1 hB1 hy1
  unfold slicesN11 at hB1
  refine sg ?_
  refine wE [(0,.s (mD p_slices)),(3,vi s1.1),(9,.s (mD p_slices)),(10,vi (p_slices.length:Int)),(11,vi s1.2),(12,vb (decide (s1.2 < (p_slices.length:Int))))] Q6 ?_
  refine sq ?_
  refine cn 12 (decide (s1.2 < (p_slices.length:Int))) rfl hB1 (fun hb hB1=>?_) fun hb hB1=>?_
  ·refine sk ?_
   obtain ⟨v2,hv2,hB1⟩:=bindS hB1
   refine Ok.seqw ⟨Cat.tab [(0,.s (mD p_slices)),(3,vi v2),(9,.s (mD p_slices)),(10,vi (p_slices.length:Int)),(11,vi s1.2)],[]⟩ ?_ ?_
   ·refine bl ?_
    refine sg ?_
    obtain ⟨x1,hx1,hv2⟩:=bindS hv2
    refine ⟨_,idx_nat hx1,_,idx_row hx1,_,rfl,?_⟩
    refine wE [(0,.s (mD p_slices)),(3,vi s1.1),(5,.s (mB x1)),(9,.s (mD p_slices)),(10,vi (p_slices.length:Int)),(11,vi s1.2)] Q6 ?_
    refine sg ?_
    obtain ⟨hc1,hv2⟩:=chk_some hv2
    refine ⟨_,List.length_map _,fun _=>(Or.inl ⟨hc1,?_⟩)⟩
    refine wE [(0,.s (mD p_slices)),(3,vi (s1.1+(x1.length:Int))),(9,.s (mD p_slices)),(10,vi (p_slices.length:Int)),(11,vi s1.2)] Q5 ?_
    refine sg ?_
    refine wE [(0,.s (mD p_slices)),(3,vi (s1.1+(x1.length:Int))),(9,.s (mD p_slices)),(10,vi (p_slices.length:Int)),(11,vi s1.2),(20,vb (decide ((s1.1+(x1.length:Int)) < 0)))] Q6 ?_
    refine cn 20 (decide ((s1.1+(x1.length:Int)) < 0)) rfl hv2 (fun hb hv2=>?_) fun hb hv2=>?_
    ·cases hv2
    refine sk ?_
    cases hv2
    exact wt Q5 Q0 rfl
   refine rg ?_
   obtain ⟨hc2,hB1⟩:=chk_some hB1
   refine (Or.inl ⟨hc2,?_⟩)
   exact ⟨_,sj hB1,wt Q5 Q0 rfl⟩
  refine xt ?_
  have hB1:=out_ret hB1 hy1
  cases hB1
  exact wt Q2 Q0 rfl
 refine sg ?_
 obtain ⟨x2,hx2,h⟩:=bindS h
 refine CallOk.own (D:=24) (wo_slicesN7 hx2) (LeL.refl _) rfl ?_
 refine wT [(0,.s (mD p_slices)),(6,.o 24)] [(24,.own 110 2 (mB x2))] Q2 J1 rfl ?_
 obtain ⟨v3,hv3,h⟩:=bindS h
 refine Ok.seqw ⟨Cat.tab [(6,.o 24)],[(24,.own 110 2 (mB v3))]⟩ ?_ ?_
 ·refine sg ?_
  refine ⟨_,List.length_map _,fun _=>?_⟩
  refine wT [(6,.o 24),(25,.s (mD p_slices)),(26,vi (p_slices.length:Int)),(27,vi (0))] [(24,.own 110 2 (mB x2))] Q4 J1 rfl ?_
  refine bl ?_
  refine Ok.loop (fun (s2:Int×(List api_Page))=>⟨Cat.tab [(6,.o 24),(25,.s (mD p_slices)),(26,vi (p_slices.length:Int)),(27,vi s2.1)],[(24,.own 110 2 (mB s2.2))]⟩) (slicesN13 p_slices) (s0:=(0,x2)) hv3 (wt Q4 ⟨⟨_,rfl,.refl _⟩,Q0⟩ rfl) ?_
  intro s2 y2 hB2 hy2
  unfold slicesN13 at hB2
  refine sg ?_
  refine wT [(6,.o 24),(25,.s (mD p_slices)),(26,vi (p_slices.length:Int)),(27,vi s2.1),(28,vb (decide (s2.1 < (p_slices.length:Int))))] [(24,.own 110 2 (mB s2.2))] Q5 J1 rfl ?_
  refine sq ?_
  refine cn 28 (decide (s2.1 < (p_slices.length:Int))) rfl hB2 (fun hb hB2=>?_) fun hb hB2=>?_
  ·refine sk ?_
   refine sq ?_
   refine bl ?_
   refine sg ?_
   obtain ⟨x3,hx3,hB2⟩:=bindS hB2
   refine ⟨_,idx_nat hx3,_,idx_row hx3,_,rfl,?_⟩
   refine wT [(6,.o 24),(8,.s (mB x3)),(25,.s (mD p_slices)),(26,vi (p_slices.length:Int)),(27,vi s2.1)] [(24,.own 110 2 (mB s2.2))] Q5 J1 rfl ?_
   refine rg ?_
   obtain ⟨hc3,hB2⟩:=chk_some hB2
   refine ⟨rowsLen_map (f:=c_api_Page) (n:=2) (fun _=>rfl) x3,app_b2 (f:=c_api_Page) (l:=s2.2) (l':=x3) hc3,_,(List.map_append (f:=c_api_Page) (l₁:=s2.2) (l₂:=x3)).symm,?_⟩
   refine wT [(6,.o 24),(25,.s (mD p_slices)),(26,vi (p_slices.length:Int)),(27,vi s2.1)] [(24,.own 110 2 (mB (s2.2++x3)))] Q4 J1 rfl ?_
   refine rg ?_
   obtain ⟨hc4,hB2⟩:=chk_some hB2
   refine (Or.inl ⟨hc4,?_⟩)
   exact ⟨_,sj hB2,wt Q4 J1 rfl⟩
  refine xt ?_
  have hB2:=out_ret hB2 hy2
  cases hB2
  exact wt Q1 J1 rfl
 refine sg ?_
 refine wT [(2,.o 24)] [(24,.own 110 2 (mB v3))] Q1 J1 rfl ?_
 refine rt ?_
 cases h
 exact (.inr ⟨_,rfl,rfl⟩)
theorem w_slicesN3 {p_slices} {r} (h:slicesN9 p_slices=some r):Pure Tryz.prog 102 [(.s (mD p_slices))] (.s (mB r)):=(wo_slicesN5 h).pure
theorem wo_diskN1 [Off] {p_l} {p_over} {r} (h:disk_laid p_l p_over=some r):POwn Tryz.prog 73 [(.s (mB p_l)),(.s (mB p_over))] 110 2 (mB r):=by
 refine pw Tryz.tok 42 Tryz.func73 (by kernel_rfl) rfl rfl rfl ?_
 unfold disk_laid at h
 refine wE [(0,.s (mB p_l)),(1,.s (mB p_over))] Q2 ?_
 refine sg ?_
 refine wE [(0,.s (mB p_l)),(1,.s (mB p_over))] Q2 ?_
 refine sg ?_
 refine wT [(0,.s (mB p_l)),(1,.s (mB p_over)),(5,.m 11)] [(11,.mp true (List.map (fun p=>(p.1,c_api_Page p.2)) ([]:List (Int×api_Page))))] Q3 ⟨⟨_,rfl,.refl _⟩,Q0⟩ rfl ?_
 obtain ⟨v1,hv1,h⟩:=bindS h
 refine Ok.seqw ⟨Cat.tab [(5,.m 11)],[(11,.mp true (List.map (fun p=>(p.1,c_api_Page p.2)) v1))]⟩ ?_ ?_
 ·refine sg ?_
  obtain ⟨x1,hx1,hv1⟩:=bindS hv1
  refine Or.inl ?_
  refine CallOk.call (w_slicesN3 hx1) (LeL.refl _) ?_
  refine ⟨_,List.length_map _,fun _=>?_⟩
  refine wT [(5,.m 11),(15,.s (mB x1)),(16,vi (x1.length:Int)),(17,vi (0))] [(11,.mp true (List.map (fun p=>(p.1,c_api_Page p.2)) ([]:List (Int×api_Page))))] Q4 ⟨⟨_,rfl,.refl _⟩,Q0⟩ rfl ?_
  refine bl ?_
  refine Ok.loop (fun (s1:Int×(List (Int×api_Page)))=>⟨Cat.tab [(5,.m 11),(15,.s (mB x1)),(16,vi (x1.length:Int)),(17,vi s1.1)],[(11,.mp true (List.map (fun p=>(p.1,c_api_Page p.2)) s1.2))]⟩) (diskN4 x1) (s0:=(0,([]:List (Int×api_Page)))) hv1 (wt Q4 ⟨⟨_,rfl,.refl _⟩,Q0⟩ rfl) ?_
  intro s1 y1 hB1 hy1
  unfold diskN4 at hB1
  refine sg ?_
  refine wT [(5,.m 11),(15,.s (mB x1)),(16,vi (x1.length:Int)),(17,vi s1.1),(18,vb (decide (s1.1 < (x1.length:Int))))] [(11,.mp true (List.map (fun p=>(p.1,c_api_Page p.2)) s1.2))] Q5 ⟨⟨_,rfl,.refl _⟩,Q0⟩ rfl ?_
  refine sq ?_
  refine cn 18 (decide (s1.1 < (x1.length:Int))) rfl hB1 (fun hb hB1=>?_) fun hb hB1=>?_
  ·refine sk ?_
   refine sq ?_
   refine bl ?_
   refine sg ?_
   obtain ⟨x2,hx2,hB1⟩:=bindS hB1
   refine ⟨_,idx_nat hx2,_,idx_row hx2,_,rfl,_,rfl,?_⟩
   refine wT [(5,.m 11),(7,.b 7 0),(15,.s (mB x1)),(16,vi (x1.length:Int)),(17,vi s1.1)] [(11,.mp true (List.map (fun p=>(p.1,c_api_Page p.2)) s1.2)),(7,.box [vi x2.At,.s (mU x2.Data)])] Q5 ⟨⟨_,rfl,.refl _⟩,⟨_,rfl,.refl _⟩,Q0⟩ rfl ?_
   refine rg ?_
   obtain ⟨hc1,hB1⟩:=chk_some hB1
   refine ⟨_,rfl,_,rfl,hc1.1,Nat.lt_of_le_of_lt (Nat.le_of_eq (List.length_map _)) hc1.2,_,mset_map c_api_Page x2.At x2 s1.2,?_⟩
   refine wT [(5,.m 11),(15,.s (mB x1)),(16,vi (x1.length:Int)),(17,vi s1.1)] [(11,.mp true (List.map (fun p=>(p.1,c_api_Page p.2)) (mset x2.At x2 s1.2)))] Q4 ⟨⟨_,rfl,.refl _⟩,Q0⟩ rfl ?_
   refine rg ?_
   obtain ⟨hc2,hB1⟩:=chk_some hB1
   refine (Or.inl ⟨hc2,?_⟩)
   exact ⟨_,sj hB1,wt Q4 J1 rfl⟩
  refine xt ?_
  have hB1:=out_ret hB1 hy1
  cases hB1
  exact wt Q1 J1 rfl
 refine sg ?_
 refine wT [(5,.m 11),(8,.v (.slice none 0 0))] [(11,.mp true (List.map (fun p=>(p.1,c_api_Page p.2)) v1))] Q2 ⟨⟨_,rfl,.refl _⟩,Q0⟩ rfl ?_
 obtain ⟨v2,hv2,h⟩:=bindS h
 refine Ok.seqw ⟨Cat.tab [(8,.o 39)],[(39,.own 110 2 (mB v2))]⟩ ?_ ?_
 ·refine sg ?_
  refine CallOk.keys (D:=27) Tryz.keysS104 Tryz.enters104 rfl rfl rfl ?_
  obtain ⟨hc3,hv2⟩:=chk_some hv2
  obtain ⟨x3,hx3,hv2⟩:=bindS hv2
  refine CallOk.sortedKeys (D:=27) (D2:=28) Tryz.sortedS103_130 Tryz.enters103 rfl rfl (klen hc3) (ksort hx3) rfl ?_
  refine ⟨_,List.length_map _,fun _=>?_⟩
  refine wT [(5,.m 11),(8,.v (.slice none 0 0)),(28,.o 28),(29,vi (x3.length:Int)),(30,vi (0))] [(11,.mp true (List.map (fun p=>(p.1,c_api_Page p.2)) v1)),(28,.own 3 1 (mI x3))] Q5 ⟨⟨_,rfl,.refl _⟩,⟨_,rfl,.refl _⟩,Q0⟩ rfl ?_
  refine bl ?_
  refine Ok.loop (fun (s2:Int×(List api_Page))=>⟨Cat.tab [(5,.m 11),(8,.o 39),(28,.o 28),(29,vi (x3.length:Int)),(30,vi s2.1)],[(11,.mp true (List.map (fun p=>(p.1,c_api_Page p.2)) v1)),(39,.own 110 2 (mB s2.2)),(28,.own 3 1 (mI x3))]⟩) (diskN6 x3 v1) (s0:=(0,[])) hv2 ((Wk.own0 (t:=8) (id:=39) (E:=110) (K:=2) rfl rfl).trans (wt Q5 ⟨⟨_,rfl,.refl _⟩,⟨_,rfl,.refl _⟩,⟨_,rfl,.refl _⟩,Q0⟩ rfl)) ?_
  intro s2 y2 hB2 hy2
  unfold diskN6 at hB2
  refine sg ?_
  refine sq ?_
  refine cn 31 (decide (s2.1 < (x3.length:Int))) rfl hB2 (fun hb hB2=>?_) fun hb hB2=>?_
  ·refine sk ?_
   refine sq ?_
   refine bl ?_
   refine sg ?_
   obtain ⟨x4,hx4,hB2⟩:=bindS hB2
   refine ⟨_,idx_nat hx4,idx_ltm hx4,_,idx_row hx4,rfl,_,rfl,?_⟩
   refine wT [(5,.m 11),(8,.o 39),(10,vi x4),(28,.o 28),(29,vi (x3.length:Int)),(30,vi s2.1)] [(11,.mp true (List.map (fun p=>(p.1,c_api_Page p.2)) v1)),(39,.own 110 2 (mB s2.2)),(28,.own 3 1 (mI x3))] Q6 ⟨⟨_,rfl,.refl _⟩,⟨_,rfl,.refl _⟩,⟨_,rfl,.refl _⟩,Q0⟩ rfl ?_
   refine rg ?_
   obtain ⟨x5,hx5,hB2⟩:=bindS hB2
   obtain ⟨hc4,hB2⟩:=chk_some hB2
   refine ⟨_,lk_val c_api_Page (z:=((⟨0,[]⟩:api_Page):api_Page)) hx5,Or.inl ⟨rowsLen_map (f:=c_api_Page) (n:=2) (fun _=>rfl) ([x5]),app_b2 (f:=c_api_Page) (l:=s2.2) (l':=[x5]) hc4,_,(List.map_append (f:=c_api_Page) (l₁:=s2.2) (l₂:=[x5])).symm,?_⟩⟩
   refine rg ?_
   obtain ⟨hc5,hB2⟩:=chk_some hB2
   refine (Or.inl ⟨hc5,?_⟩)
   exact ⟨_,sj hB2,wt Q5 J3 rfl⟩
  refine xt ?_
  have hB2:=out_ret hB2 hy2
  cases hB2
  exact wt Q1 J1 rfl
 refine sg ?_
 refine wT [(4,.o 39)] [(39,.own 110 2 (mB v2))] Q1 J1 rfl ?_
 refine rt ?_
 cases h
 exact (.inr ⟨_,rfl,rfl⟩)
theorem w_disk_laid [Off] {p_l} {p_over} {r} (h:disk_laid p_l p_over=some r):Pure Tryz.prog 73 [(.s (mB p_l)),(.s (mB p_over))] (.s (mB r)):=(wo_diskN1 h).pure
theorem w_disk_Sync [Off] {p_d} {r} (h:disk_Sync p_d=some r):Pure Tryz.prog 62 [(.a [(.s (mB p_d.Synced)),(.s (mB p_d.Loose)),(vb p_d.Down)])] (.t [(.a [(.s (mB r.1.Synced)),(.s (mB r.1.Loose)),(vb r.1.Down)]),(vi r.2)]):=by
 refine po Tryz.tok 13 Tryz.func62 (by kernel_rfl) rfl rfl rfl ?_
 unfold disk_Sync at h
 refine wE [(0,.a [.s (mB p_d.Synced),.s (mB p_d.Loose),vb p_d.Down])] Q1 ?_
 refine sg ?_
 refine wT [(1,.b 1 0),(2,.b 2 0)] [(1,.box [.s (mB p_d.Synced),.s (mB p_d.Loose),vb p_d.Down]),(2,.box [.v (.slice none 0 0),.v (.slice none 0 0),vb false])] Q2 J2 rfl ?_
 refine sq ?_
 refine sg ?_
 refine ⟨_,rfl,?_⟩
 refine wT [(1,.b 1 0),(2,.b 2 0),(5,vb p_d.Down)] [(1,.box [.s (mB p_d.Synced),.s (mB p_d.Loose),vb p_d.Down]),(2,.box [.v (.slice none 0 0),.v (.slice none 0 0),vb false])] Q3 J2 rfl ?_
 refine cn 5 (p_d.Down) rfl h (fun hb h=>?_) fun hb h=>?_
 ·refine sg ?_
  refine ⟨_,rfl,_,rfl,?_⟩
  refine wT [(2,.b 2 0),(3,vi (40))] [(2,.box [.s (mB p_d.Synced),.s (mB p_d.Loose),vb p_d.Down])] Q2 J1 rfl ?_
  refine rt ?_
  cases h
  exact ⟨_,rfl,(Fz.t (.cons (Fz.imm rfl) (.cons Fz.v .nil)))⟩
 refine sk ?_
 refine sg ?_
 obtain ⟨x1,hx1,h⟩:=bindS h
 refine ⟨_,rfl,_,rfl,?_⟩
 refine CallOk.call (w_disk_laid hx1) (LeL.refl _) ?_
 refine ⟨_,rfl,?_⟩
 refine wT [(2,.b 2 0),(3,vi (0))] [(2,.box [.s (mB x1),.v (.slice none 0 0),vb false])] Q2 J1 rfl ?_
 refine rt ?_
 cases h
 exact ⟨_,rfl,(Fz.t (.cons (Fz.a (.cons Fz.s (.cons Fz.nil (.cons Fz.v .nil)))) (.cons Fz.v .nil)))⟩
theorem wg_chainN5 [Off] {p_server} {p_h1} {p_b2} {p_b3} {r} (h:chainN34 p_server p_h1 p_b2 p_b3=some r):CallOk Tryz.prog 59 [(vi p_server),(.b 1000 0),(.b 1002 0),(.b 1003 0)] ⟨noSlots,[(1000,.box [(.o 1001)]),(1001,.own 29 3 (mA p_h1)),(1002,.box [(vi p_b2.Id),(vi p_b2.Ver),(.s (mI p_b2.Servers))]),(1003,.box [(.s (mU p_b3))])]⟩ fun x s=>x=(.t [])∧s.H=[(1000,.box [(.o 1001)]),(1001,.own 29 3 (mA r)),(1002,.box [(vi p_b2.Id),(vi p_b2.Ver),(.s (mI p_b2.Servers))]),(1003,.box [(.s (mU p_b3))])]:=by
 refine pgen_of_ok (n:=29) (c:=Tryz.f59.body.getD .skip) Tryz.tok Tryz.func59 (by kernel_rfl) rfl rfl (Nat.le_of_ble_eq_true rfl) ?_
 unfold chainN34 at h
 refine wT [(0,vi p_server),(1,.b 1000 0),(2,.b 1002 0),(3,.b 1003 0)] [(1000,.box [.o 1001]),(1001,.own 29 3 (mA p_h1)),(1002,.box [vi p_b2.Id,vi p_b2.Ver,.s (mI p_b2.Servers)]),(1003,.box [.s (mU p_b3)])] Q4 J4 rfl ?_
 refine sq ?_
 refine Ok.draw2 (m:=15) (late:=[13]) (MD:=⟨[]⟩) (CH:=⟨[]⟩) Tryz.tok Tryz.mixed (by kernel_rfl) ?_
 obtain ⟨x1,hx1,h⟩:=bindS h
 obtain ⟨x2,hx2,h⟩:=bindS h
 obtain ⟨x3,hx3,h⟩:=bindS h
 refine ⟨_,⟨_,rfl,rfl⟩,_,rfl,_,⟨_,idx_nat hx1,idx_ltm hx1,rfl⟩,_,⟨_,idx_row hx1,rfl,_,rfl,rfl⟩,_,rfl,_,⟨_,rfl,rfl⟩,_,rfl,_,⟨_,rfl,rfl⟩,_,⟨_,rfl,rfl⟩,_,⟨_,.of_pure (w_chunk_New hx2) (LeL.refl _),rfl⟩,_,⟨_,.of_pure (w_chunk_Put hx3) (LeL.refl _),rfl⟩,_,rfl,_,rfl,_,rfl,Q0,?_⟩
 refine ⟨_,rfl,⟨⟨_,rfl,rfl⟩,Q0⟩,?_⟩
 refine Ok.draw2 (m:=8) (late:=[6]) (MD:=⟨[]⟩) (CH:=⟨[]⟩) Tryz.tok Tryz.mixed (by kernel_rfl) ?_
 obtain ⟨x4,hx4,h⟩:=bindS h
 obtain ⟨x5,hx5,h⟩:=bindS h
 refine ⟨_,⟨_,rfl,rfl⟩,_,rfl,_,⟨_,rfl,rfl⟩,_,⟨_,.of_pure (w_disk_Sync hx4) (LeL.refl _),rfl⟩,_,rfl,_,rfl,_,rfl,_,⟨_,idx_nat hx5,idx_ltm hx5,rfl⟩,Q0,?_⟩
 refine ⟨_,idx_row hx5,rfl,_,rfl,_,set_row (f:=c_api_Disk) (x:=x4.1),⟨⟨_,rfl,rfl⟩,Q0⟩,?_⟩
 cases h
 exact wt Q1 J4 rfl
end Go.Proofs
