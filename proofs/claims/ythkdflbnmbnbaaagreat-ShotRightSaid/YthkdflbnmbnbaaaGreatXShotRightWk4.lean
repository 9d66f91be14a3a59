/- The walks of this seat beside the plain programs, part 4. No condition. -/
import Derived.Test.YthkdflbnmbnbaaaGreatXShotRightEn
import Derived.Test.YthkdflbnmbnbaaaGreatXShotRightWk0
import Derived.Test.YthkdflbnmbnbaaaGreatXShotRightWk1
import Derived.Test.YthkdflbnmbnbaaaGreatXShotRightWk2
import Derived.Test.YthkdflbnmbnbaaaGreatXShotRightWk3
namespace Go.Proofs
set_option linter.all false
open Go Go.Cat
variable [M:Mono]
set_option maxRecDepth 100000
theorem w_ref07N1 {p_t} {p_ino} {p_of} {r} (h:ref07_Below p_t p_ino p_of=some r):Pure Tryz.prog 42 [(.a [(.s (mI p_t.Nodes)),(vi p_t.Next),(vi p_t.Cookie)]),(vi p_ino),(vi p_of)] (vb r):=by
 refine po Tryz.tok 30 Tryz.func42 (by kernel_rfl) rfl rfl rfl ?_
 unfold ref07_Below at h
 refine wE [(0,.a [.s (mI p_t.Nodes),vi p_t.Next,vi p_t.Cookie]),(1,vi p_ino),(2,vi p_of)] Q3 ?_
 refine sg ?_
 refine wT [(1,vi p_ino),(2,vi p_of),(3,.b 3 0)] [(3,.box [.s (mI p_t.Nodes),vi p_t.Next,vi p_t.Cookie])] Q3 J1 rfl ?_
 refine Ok.seqj (fun v1=>⟨Cat.tab [],[]⟩) (fun v1=>ref07N2 v1=some r) ?_ ?_
 ·refine sg ?_
  refine wT [(1,vi p_ino),(2,vi p_of),(3,.b 3 0),(7,vi (0))] [(3,.box [.s (mI p_t.Nodes),vi p_t.Next,vi p_t.Cookie])] Q4 J1 rfl ?_
  refine bl ?_
  refine Ok.loop (fun (s1:Int×Int)=>⟨Cat.tab [(1,vi s1.1),(2,vi p_of),(3,.b 3 0),(7,vi s1.2)],[(3,.box [.s (mI p_t.Nodes),vi p_t.Next,vi p_t.Cookie])]⟩) (ref07N1 p_t p_of) (s0:=(p_ino,0)) h (wt Q4 ⟨⟨_,rfl,.refl _⟩,Q0⟩ rfl) ?_
  intro s1 y1 hB1 hy1
  unfold ref07N1 at hB1
  refine sq ?_
  refine sg ?_
  refine ⟨_,rfl,_,List.length_map _,fun _=>?_⟩
  refine wT [(1,vi s1.1),(2,vi p_of),(3,.b 3 0),(7,vi s1.2),(14,vb (decide (s1.2≤(p_t.Nodes.length:Int))))] [(3,.box [.s (mI p_t.Nodes),vi p_t.Next,vi p_t.Cookie])] Q5 J1 rfl ?_
  refine cn 14 (decide (s1.2≤(p_t.Nodes.length:Int))) rfl hB1 (fun hb hB1=>?_) fun hb hB1=>?_
  ·refine sk ?_
   refine sq ?_
   refine bl ?_
   refine sq ?_
   refine sg ?_
   refine wT [(1,vi s1.1),(2,vi p_of),(3,.b 3 0),(7,vi s1.2),(19,vb (s1.1 == p_of))] [(3,.box [.s (mI p_t.Nodes),vi p_t.Next,vi p_t.Cookie])] Q5 J1 rfl ?_
   refine cn 19 (s1.1 == p_of) rfl hB1 (fun hb hB1=>?_) fun hb hB1=>?_
   ·refine sg ?_
    refine wE [(6,vb true)] Q1 ?_
    refine rt ?_
    have hB1:=out_ret hB1 hy1
    cases hB1
    exact Fz.v
   refine sk ?_
   refine sq ?_
   refine sg ?_
   refine wT [(1,vi s1.1),(2,vi p_of),(3,.b 3 0),(7,vi s1.2),(21,vb (s1.1 == 1))] [(3,.box [.s (mI p_t.Nodes),vi p_t.Next,vi p_t.Cookie])] Q5 J1 rfl ?_
   refine cn 21 (s1.1 == 1) rfl hB1 (fun hb hB1=>?_) fun hb hB1=>?_
   ·refine sg ?_
    refine wE [(6,vb false)] Q1 ?_
    refine rt ?_
    have hB1:=out_ret hB1 hy1
    cases hB1
    exact Fz.v
   refine sk ?_
   refine sg ?_
   obtain ⟨x1,hx1,hB1⟩:=bindS hB1
   refine ⟨_,rfl,?_⟩
   refine CallOk.call (w_ref07_Get hx1) (LeL.refl _) ?_
   refine ⟨_,rfl,?_⟩
   refine wT [(2,vi p_of),(3,.b 3 0),(7,vi s1.2),(8,.b 8 0)] [(3,.box [.s (mI p_t.Nodes),vi p_t.Next,vi p_t.Cookie]),(8,.box [vi x1.1.Ino,vi x1.1.Kind,vi x1.1.Links,.s (mD x1.1.Data),.s (mC x1.1.Ents),vi x1.1.Up])] Q4 J2 rfl ?_
   refine rg ?_
   refine ⟨_,rfl,?_⟩
   refine wT [(1,vi x1.1.Up),(2,vi p_of),(3,.b 3 0),(7,vi s1.2)] [(3,.box [.s (mI p_t.Nodes),vi p_t.Next,vi p_t.Cookie])] Q4 J1 rfl ?_
   refine rg ?_
   obtain ⟨hc1,hB1⟩:=chk_some hB1
   refine (Or.inl ⟨hc1,?_⟩)
   exact ⟨_,sj hB1,wt Q4 J1 rfl⟩
  refine xt ?_
  have hB1:=out_ret hB1 hy1
  exact ⟨_,hB1,wt Q0 Q0 rfl⟩
 intro v1 h
 unfold ref07N2 at h
 refine sg ?_
 refine wE [(6,vb false)] Q1 ?_
 refine rt ?_
 cases h
 exact Fz.v
theorem w_ref07N8 {p_t} {p_x} {p_y} {r} (h:ref07_clash p_t p_x p_y=some r):Pure Tryz.prog 91 [(.a [(.s (mI p_t.Nodes)),(vi p_t.Next),(vi p_t.Cookie)]),(.a [(vi p_x.Ino),(vi p_x.Kind),(vi p_x.Links),(.s (mD p_x.Data)),(.s (mC p_x.Ents)),(vi p_x.Up)]),(vi p_y)] (vi r):=by
 refine po Tryz.tok 37 Tryz.func91 (by kernel_rfl) rfl rfl rfl ?_
 unfold ref07_clash at h
 refine wE [(0,.a [.s (mI p_t.Nodes),vi p_t.Next,vi p_t.Cookie]),(1,.a [vi p_x.Ino,vi p_x.Kind,vi p_x.Links,.s (mD p_x.Data),.s (mC p_x.Ents),vi p_x.Up]),(2,vi p_y)] Q3 ?_
 refine sg ?_
 refine wT [(2,vi p_y),(3,.b 3 0),(4,.b 4 0)] [(3,.box [.s (mI p_t.Nodes),vi p_t.Next,vi p_t.Cookie]),(4,.box [vi p_x.Ino,vi p_x.Kind,vi p_x.Links,.s (mD p_x.Data),.s (mC p_x.Ents),vi p_x.Up])] Q3 J2 rfl ?_
 refine sg ?_
 obtain ⟨x1,hx1,h⟩:=bindS h
 refine ⟨_,rfl,?_⟩
 refine CallOk.call (w_ref07_Get hx1) (LeL.refl _) ?_
 refine ⟨_,rfl,?_⟩
 refine wT [(4,.b 4 0),(7,.b 7 0),(8,vb x1.2)] [(4,.box [vi p_x.Ino,vi p_x.Kind,vi p_x.Links,.s (mD p_x.Data),.s (mC p_x.Ents),vi p_x.Up]),(7,.box [vi x1.1.Ino,vi x1.1.Kind,vi x1.1.Links,.s (mD x1.1.Data),.s (mC x1.1.Ents),vi x1.1.Up])] Q3 J2 rfl ?_
 refine sq ?_
 refine sg ?_
 refine wT [(4,.b 4 0),(7,.b 7 0),(16,vb (!x1.2))] [(4,.box [vi p_x.Ino,vi p_x.Kind,vi p_x.Links,.s (mD p_x.Data),.s (mC p_x.Ents),vi p_x.Up]),(7,.box [vi x1.1.Ino,vi x1.1.Kind,vi x1.1.Links,.s (mD x1.1.Data),.s (mC x1.1.Ents),vi x1.1.Up])] Q3 J2 rfl ?_
 refine cn 16 (!x1.2) rfl h (fun hb h=>?_) fun hb h=>?_
 ·refine sg ?_
  refine wE [(6,vi (0))] Q1 ?_
  refine rt ?_
  cases h
  exact Fz.v
 refine sk ?_
 refine sq ?_
 obtain ⟨v1,hv1,h⟩:=bindS h
 refine Ok.seqw ⟨Cat.tab [(4,.b 4 0),(7,.b 7 0),(24,vb v1)],[(4,.box [vi p_x.Ino,vi p_x.Kind,vi p_x.Links,.s (mD p_x.Data),.s (mC p_x.Ents),vi p_x.Up]),(7,.box [vi x1.1.Ino,vi x1.1.Kind,vi x1.1.Links,.s (mD x1.1.Data),.s (mC x1.1.Ents),vi x1.1.Up])]⟩ ?_ ?_
 ·refine rg ?_
  refine ⟨_,rfl,?_⟩
  obtain ⟨c1,hg1,hv1⟩:=bindS hv1
  refine Br.ite hg1 (fun hb hg1=>?_) fun hb hg1=>?_
  ·refine ⟨_,rfl,?_⟩
   cases hg1
   cases hv1
   exact wt Q3 J2 rfl
  cases hg1
  cases hv1
  exact wt Q3 J2 rfl
 refine cn 24 (v1) rfl h (fun hb h=>?_) fun hb h=>?_
 ·refine sg ?_
  refine wE [(6,vi (73))] Q1 ?_
  refine rt ?_
  cases h
  exact Fz.v
 refine sk ?_
 refine sq ?_
 obtain ⟨v2,hv2,h⟩:=bindS h
 refine Ok.seqw ⟨Cat.tab [(7,.b 7 0),(32,vb v2)],[(7,.box [vi x1.1.Ino,vi x1.1.Kind,vi x1.1.Links,.s (mD x1.1.Data),.s (mC x1.1.Ents),vi x1.1.Up])]⟩ ?_ ?_
 ·refine rg ?_
  refine ⟨_,rfl,?_⟩
  obtain ⟨c2,hg2,hv2⟩:=bindS hv2
  refine Br.ite hg2 (fun hb hg2=>?_) fun hb hg2=>?_
  ·refine ⟨_,rfl,?_⟩
   cases hg2
   cases hv2
   exact wt Q2 J1 rfl
  cases hg2
  cases hv2
  exact wt Q2 J1 rfl
 refine cn 32 (v2) rfl h (fun hb h=>?_) fun hb h=>?_
 ·refine sg ?_
  refine wE [(6,vi (72))] Q1 ?_
  refine rt ?_
  cases h
  exact Fz.v
 refine sk ?_
 refine sq ?_
 refine sg ?_
 refine ⟨_,rfl,_,List.length_map _,fun _=>?_⟩
 refine wE [(36,vb (decide ((x1.1.Ents.length:Int) > 0)))] Q1 ?_
 refine cn 36 (decide ((x1.1.Ents.length:Int) > 0)) rfl h (fun hb h=>?_) fun hb h=>?_
 ·refine sg ?_
  refine wE [(6,vi (74))] Q1 ?_
  refine rt ?_
  cases h
  exact Fz.v
 refine sk ?_
 refine sg ?_
 refine wE [(6,vi (0))] Q1 ?_
 refine rt ?_
 cases h
 exact Fz.v
theorem w_ref07N13 {p_t} {p_ino} {p_at} {r} (h:ref07_high p_t p_ino p_at=some r):Pure Tryz.prog 92 [(.a [(.s (mI p_t.Nodes)),(vi p_t.Next),(vi p_t.Cookie)]),(vi p_ino),(vi p_at)] (vi r):=by
 refine po Tryz.tok 55 Tryz.func92 (by kernel_rfl) rfl rfl rfl ?_
 unfold ref07_high at h
 refine wE [(0,.a [.s (mI p_t.Nodes),vi p_t.Next,vi p_t.Cookie]),(1,vi p_ino),(2,vi p_at)] Q3 ?_
 refine sg ?_
 refine wT [(1,vi p_ino),(2,vi p_at),(3,.b 3 0)] [(3,.box [.s (mI p_t.Nodes),vi p_t.Next,vi p_t.Cookie])] Q3 J1 rfl ?_
 refine sg ?_
 refine wT [(1,vi p_ino),(2,vi p_at),(3,.b 3 0),(7,vi (0))] [(3,.box [.s (mI p_t.Nodes),vi p_t.Next,vi p_t.Cookie])] Q4 J1 rfl ?_
 refine sg ?_
 obtain ⟨x1,hx1,h⟩:=bindS h
 refine ⟨_,rfl,?_⟩
 refine CallOk.call (w_ref07N9 hx1) (LeL.refl _) ?_
 refine wT [(1,vi p_ino),(2,vi p_at),(3,.b 3 0),(7,vi (0)),(8,vi x1)] [(3,.box [.s (mI p_t.Nodes),vi p_t.Next,vi p_t.Cookie])] Q5 J1 rfl ?_
 obtain ⟨v1,hv1,h⟩:=bindS h
 refine Ok.seqw ⟨Cat.tab [(7,vi v1)],[]⟩ ?_ ?_
 ·refine sg ?_
  refine wT [(1,vi p_ino),(2,vi p_at),(3,.b 3 0),(7,vi (0)),(8,vi x1),(9,vi (0))] [(3,.box [.s (mI p_t.Nodes),vi p_t.Next,vi p_t.Cookie])] Q6 J1 rfl ?_
  refine bl ?_
  refine Ok.loop (fun (s1:Int×Int)=>⟨Cat.tab [(1,vi p_ino),(2,vi p_at),(3,.b 3 0),(7,vi s1.1),(8,vi x1),(9,vi s1.2)],[(3,.box [.s (mI p_t.Nodes),vi p_t.Next,vi p_t.Cookie])]⟩) (ref07N25 p_t p_ino p_at x1) (s0:=(0,0)) hv1 (wt Q6 ⟨⟨_,rfl,.refl _⟩,Q0⟩ rfl) ?_
  intro s1 y1 hB1 hy1
  unfold ref07N25 at hB1
  refine sq ?_
  refine sg ?_
  refine ⟨_,rfl,_,List.length_map _,fun _=>?_⟩
  refine wT [(1,vi p_ino),(2,vi p_at),(3,.b 3 0),(7,vi s1.1),(8,vi x1),(9,vi s1.2),(19,vb (decide (s1.2 < (p_t.Nodes.length:Int))))] [(3,.box [.s (mI p_t.Nodes),vi p_t.Next,vi p_t.Cookie])] Q7 J1 rfl ?_
  refine cn 19 (decide (s1.2 < (p_t.Nodes.length:Int))) rfl hB1 (fun hb hB1=>?_) fun hb hB1=>?_
  ·refine sk ?_
   obtain ⟨v2,hv2,hB1⟩:=bindS hB1
   refine Ok.seqw ⟨Cat.tab [(1,vi p_ino),(2,vi p_at),(3,.b 3 0),(7,vi v2),(8,vi x1),(9,vi s1.2)],[(3,.box [.s (mI p_t.Nodes),vi p_t.Next,vi p_t.Cookie])]⟩ ?_ ?_
   ·refine bl ?_
    refine sg ?_
    obtain ⟨x2,hx2,hv2⟩:=bindS hv2
    refine ⟨_,rfl,_,idx_nat hx2,_,idx_row hx2,_,rfl,_,rfl,?_⟩
    refine wT [(1,vi p_ino),(2,vi p_at),(3,.b 3 0),(7,vi s1.1),(8,vi x1),(9,vi s1.2),(10,.b 10 0)] [(3,.box [.s (mI p_t.Nodes),vi p_t.Next,vi p_t.Cookie]),(10,.box [vi x2.Ino,vi x2.Kind,vi x2.Links,.s (mD x2.Data),.s (mC x2.Ents),vi x2.Up])] Q7 J2 rfl ?_
    obtain ⟨v3,hv3,hv2⟩:=bindS hv2
    refine Ok.seqw ⟨Cat.tab [(1,vi p_ino),(2,vi p_at),(3,.b 3 0),(7,vi s1.1),(8,vi x1),(9,vi s1.2),(10,.b 10 0),(36,vb v3)],[(3,.box [.s (mI p_t.Nodes),vi p_t.Next,vi p_t.Cookie]),(10,.box [vi x2.Ino,vi x2.Kind,vi x2.Links,.s (mD x2.Data),.s (mC x2.Ents),vi x2.Up])]⟩ ?_ ?_
    ·refine rg ?_
     refine ⟨_,rfl,?_⟩
     obtain ⟨c1,hg1,hv3⟩:=bindS hv3
     refine Br.ite hg1 (fun hb hg1=>?_) fun hb hg1=>?_
     ·obtain ⟨x3,hx3,hg1⟩:=bindS hg1
      refine ⟨_,rfl,_,rfl,?_⟩
      refine CallOk.call (w_ref07N1 hx3) (LeL.refl _) ?_
      cases hg1
      cases hv3
      exact wt Q8 J2 rfl
     cases hg1
     cases hv3
     exact wt Q8 J2 rfl
    refine cn 36 (v3) rfl hv2 (fun hb hv2=>?_) fun hb hv2=>?_
    ·refine sg ?_
     obtain ⟨x4,hx4,hv2⟩:=bindS hv2
     refine ⟨_,rfl,_,rfl,?_⟩
     refine CallOk.call (w_ref07N9 hx4) (LeL.refl _) ?_
     obtain ⟨hc1,hv2⟩:=chk_some hv2
     obtain ⟨hc2,hv2⟩:=chk_some hv2
     refine (Or.inl ⟨hc1,(Or.inl ⟨hc2,?_⟩)⟩)
     refine wT [(1,vi p_ino),(2,vi p_at),(3,.b 3 0),(7,vi s1.1),(8,vi x1),(9,vi s1.2),(10,.b 10 0),(11,vi ((p_at+x4) - x1))] [(3,.box [.s (mI p_t.Nodes),vi p_t.Next,vi p_t.Cookie]),(10,.box [vi x2.Ino,vi x2.Kind,vi x2.Links,.s (mD x2.Data),.s (mC x2.Ents),vi x2.Up])] Q8 J2 rfl ?_
     obtain ⟨v4,hv4,hv2⟩:=bindS hv2
     refine Ok.seqw ⟨Cat.tab [(1,vi p_ino),(2,vi p_at),(3,.b 3 0),(7,vi s1.1),(8,vi x1),(9,vi s1.2),(11,vi v4)],[(3,.box [.s (mI p_t.Nodes),vi p_t.Next,vi p_t.Cookie])]⟩ ?_ ?_
     ·refine sg ?_
      refine ⟨_,rfl,_,List.length_map _,fun _=>?_⟩
      refine wT [(1,vi p_ino),(2,vi p_at),(3,.b 3 0),(7,vi s1.1),(8,vi x1),(9,vi s1.2),(11,vi ((p_at+x4) - x1)),(48,vb (decide ((x2.Ents.length:Int) > 0)))] [(3,.box [.s (mI p_t.Nodes),vi p_t.Next,vi p_t.Cookie])] Q8 J1 rfl ?_
      refine cn 48 (decide ((x2.Ents.length:Int) > 0)) rfl hv4 (fun hb hv4=>?_) fun hb hv4=>?_
      ·refine rg ?_
       obtain ⟨hc3,hv4⟩:=chk_some hv4
       refine (Or.inl ⟨hc3,?_⟩)
       cases hv4
       exact wt Q7 J1 rfl
      refine sk ?_
      cases hv4
      exact wt Q7 J1 rfl
     refine rg ?_
     refine ⟨_,rfl,?_⟩
     cases hv2
     exact wt Q6 J1 rfl
    refine sk ?_
    cases hv2
    exact wt Q6 J1 rfl
   refine rg ?_
   obtain ⟨hc4,hB1⟩:=chk_some hB1
   refine (Or.inl ⟨hc4,?_⟩)
   exact ⟨_,sj hB1,wt Q6 J1 rfl⟩
  refine xt ?_
  have hB1:=out_ret hB1 hy1
  cases hB1
  exact wt Q1 Q0 rfl
 refine sg ?_
 refine wE [(6,vi v1)] Q1 ?_
 refine rt ?_
 cases h
 exact Fz.v
set_option maxHeartbeats 4000000 in
theorem w_ref07_Mv {p_t} {p_from} {p_name} {p_to} {p_as} {r} (h:ref07_Mv p_t p_from p_name p_to p_as=some r):Pure Tryz.prog 55 [(.a [(.s (mI p_t.Nodes)),(vi p_t.Next),(vi p_t.Cookie)]),(vi p_from),(vs p_name),(vi p_to),(vs p_as)] (.t [(.a [(.s (mI r.1.Nodes)),(vi r.1.Next),(vi r.1.Cookie)]),(vi r.2.1),(vi r.2.2)]):=by
 refine po Tryz.tok 151 Tryz.func55 (by kernel_rfl) rfl rfl rfl ?_
 unfold ref07_Mv at h
 refine wE [(0,.a [.s (mI p_t.Nodes),vi p_t.Next,vi p_t.Cookie]),(1,vi p_from),(2,vs p_name),(3,vi p_to),(4,vs p_as)] Q5 ?_
 refine sg ?_
 refine wT [(1,vi p_from),(2,vs p_name),(3,vi p_to),(4,vs p_as),(5,.b 5 0),(10,.b 10 0)] [(5,.box [.s (mI p_t.Nodes),vi p_t.Next,vi p_t.Cookie]),(10,.box [.v (.slice none 0 0),vi (0),vi (0)])] Q6 J2 rfl ?_
 refine sg ?_
 obtain ⟨x1,hx1,h⟩:=bindS h
 refine ⟨_,rfl,?_⟩
 refine CallOk.call (w_ref07N3 hx1) (LeL.refl _) ?_
 refine wT [(1,vi p_from),(2,vs p_name),(3,vi p_to),(4,vs p_as),(5,.b 5 0),(10,.b 10 0),(13,vi x1.1),(14,vi x1.2)] [(5,.box [.s (mI p_t.Nodes),vi p_t.Next,vi p_t.Cookie]),(10,.box [.v (.slice none 0 0),vi (0),vi (0)])] Q8 J2 rfl ?_
 refine sq ?_
 refine sg ?_
 refine wT [(1,vi p_from),(2,vs p_name),(3,vi p_to),(4,vs p_as),(5,.b 5 0),(10,.b 10 0),(13,vi x1.1),(14,vi x1.2),(30,vb (x1.2 != 0))] [(5,.box [.s (mI p_t.Nodes),vi p_t.Next,vi p_t.Cookie]),(10,.box [.v (.slice none 0 0),vi (0),vi (0)])] ⟨lr,Q8⟩ J2 rfl ?_
 refine cn 30 (x1.2 != 0) rfl h (fun hb h=>?_) fun hb h=>?_
 ·refine sg ?_
  refine ⟨_,rfl,_,rfl,?_⟩
  refine wT [(10,.b 10 0),(11,vi (0)),(12,vi x1.2)] [(10,.box [.s (mI p_t.Nodes),vi p_t.Next,vi p_t.Cookie])] Q3 J1 rfl ?_
  refine rt ?_
  cases h
  exact ⟨_,rfl,(Fz.t (.cons (Fz.imm rfl) (.cons Fz.v (.cons Fz.v .nil))))⟩
 refine sk ?_
 refine sg ?_
 obtain ⟨x2,hx2,h⟩:=bindS h
 refine ⟨_,rfl,?_⟩
 refine CallOk.call (w_ref07_dir hx2) (LeL.refl _) ?_
 refine ⟨_,rfl,?_⟩
 refine wT [(1,vi p_from),(2,vs p_name),(3,vi p_to),(4,vs p_as),(5,.b 5 0),(10,.b 10 0),(13,vi x1.1),(14,vi x2.2),(15,.b 15 0)] [(5,.box [.s (mI p_t.Nodes),vi p_t.Next,vi p_t.Cookie]),(10,.box [.v (.slice none 0 0),vi (0),vi (0)]),(15,.box [vi x2.1.Ino,vi x2.1.Kind,vi x2.1.Links,.s (mD x2.1.Data),.s (mC x2.1.Ents),vi x2.1.Up])] ⟨lr,Q8⟩ J3 rfl ?_
 refine sq ?_
 refine sg ?_
 refine wT [(1,vi p_from),(2,vs p_name),(3,vi p_to),(4,vs p_as),(5,.b 5 0),(10,.b 10 0),(13,vi x1.1),(14,vi x2.2),(15,.b 15 0),(40,vb (x2.2 != 0))] [(5,.box [.s (mI p_t.Nodes),vi p_t.Next,vi p_t.Cookie]),(10,.box [.v (.slice none 0 0),vi (0),vi (0)]),(15,.box [vi x2.1.Ino,vi x2.1.Kind,vi x2.1.Links,.s (mD x2.1.Data),.s (mC x2.1.Ents),vi x2.1.Up])] ⟨lr,lr,Q8⟩ J3 rfl ?_
 refine cn 40 (x2.2 != 0) rfl h (fun hb h=>?_) fun hb h=>?_
 ·refine sg ?_
  refine ⟨_,rfl,_,rfl,?_⟩
  refine wT [(10,.b 10 0),(11,vi (0)),(12,vi x2.2)] [(10,.box [.s (mI p_t.Nodes),vi p_t.Next,vi p_t.Cookie])] Q3 J1 rfl ?_
  refine rt ?_
  cases h
  exact ⟨_,rfl,(Fz.t (.cons (Fz.imm rfl) (.cons Fz.v (.cons Fz.v .nil))))⟩
 refine sk ?_
 refine sq ?_
 refine sg ?_
 obtain ⟨x3,hx3,h⟩:=bindS h
 refine CallOk.call (w_ref06N1 hx3) (LeL.refl _) ?_
 refine wT [(1,vi p_from),(2,vs p_name),(3,vi p_to),(4,vs p_as),(5,.b 5 0),(10,.b 10 0),(13,vi x1.1),(15,.b 15 0),(45,vb (!x3))] [(5,.box [.s (mI p_t.Nodes),vi p_t.Next,vi p_t.Cookie]),(10,.box [.v (.slice none 0 0),vi (0),vi (0)]),(15,.box [vi x2.1.Ino,vi x2.1.Kind,vi x2.1.Links,.s (mD x2.1.Data),.s (mC x2.1.Ents),vi x2.1.Up])] ⟨lr,Q8⟩ J3 rfl ?_
 refine cn 45 (!x3) rfl h (fun hb h=>?_) fun hb h=>?_
 ·refine sg ?_
  refine ⟨_,rfl,_,rfl,?_⟩
  refine wT [(10,.b 10 0),(11,vi (0)),(12,vi (60))] [(10,.box [.s (mI p_t.Nodes),vi p_t.Next,vi p_t.Cookie])] Q3 J1 rfl ?_
  refine rt ?_
  cases h
  exact ⟨_,rfl,(Fz.t (.cons (Fz.imm rfl) (.cons Fz.v (.cons Fz.v .nil))))⟩
 refine sk ?_
 refine sg ?_
 refine wT [(1,vi p_from),(2,vs p_name),(3,vi p_to),(4,vs p_as),(5,.b 5 0),(10,.b 10 0),(13,vi x1.1),(15,.b 15 0),(16,vi (0))] [(5,.box [.s (mI p_t.Nodes),vi p_t.Next,vi p_t.Cookie]),(10,.box [.v (.slice none 0 0),vi (0),vi (0)]),(15,.box [vi x2.1.Ino,vi x2.1.Kind,vi x2.1.Links,.s (mD x2.1.Data),.s (mC x2.1.Ents),vi x2.1.Up])] ⟨lr,Q8⟩ J3 rfl ?_
 refine sg ?_
 obtain ⟨x4,hx4,h⟩:=bindS h
 refine ⟨_,rfl,?_⟩
 refine CallOk.call (w_ref07N15 hx4) (LeL.refl _) ?_
 refine wT [(1,vi p_from),(2,vs p_name),(3,vi p_to),(4,vs p_as),(5,.b 5 0),(10,.b 10 0),(13,vi x1.1),(15,.b 15 0),(16,vi (0)),(17,vi x4)] [(5,.box [.s (mI p_t.Nodes),vi p_t.Next,vi p_t.Cookie]),(10,.box [.v (.slice none 0 0),vi (0),vi (0)]),(15,.box [vi x2.1.Ino,vi x2.1.Kind,vi x2.1.Links,.s (mD x2.1.Data),.s (mC x2.1.Ents),vi x2.1.Up])] ⟨lr,lr,Q8⟩ J3 rfl ?_
 obtain ⟨v1,hv1,h⟩:=bindS h
 refine Ok.seqw ⟨Cat.tab [(1,vi p_from),(2,vs p_name),(3,vi p_to),(4,vs p_as),(5,.b 5 0),(10,.b 10 0),(13,vi x1.1),(15,.b 15 0),(16,vi v1)],[(5,.box [.s (mI p_t.Nodes),vi p_t.Next,vi p_t.Cookie]),(10,.box [.v (.slice none 0 0),vi (0),vi (0)]),(15,.box [vi x2.1.Ino,vi x2.1.Kind,vi x2.1.Links,.s (mD x2.1.Data),.s (mC x2.1.Ents),vi x2.1.Up])]⟩ ?_ ?_
 ·refine sg ?_
  refine wT [(1,vi p_from),(2,vs p_name),(3,vi p_to),(4,vs p_as),(5,.b 5 0),(10,.b 10 0),(13,vi x1.1),(15,.b 15 0),(16,vi (0)),(17,vi x4),(51,vb (decide (x4≥0)))] [(5,.box [.s (mI p_t.Nodes),vi p_t.Next,vi p_t.Cookie]),(10,.box [.v (.slice none 0 0),vi (0),vi (0)]),(15,.box [vi x2.1.Ino,vi x2.1.Kind,vi x2.1.Links,.s (mD x2.1.Data),.s (mC x2.1.Ents),vi x2.1.Up])] ⟨lr,lr,lr,Q8⟩ J3 rfl ?_
  refine cn 51 (decide (x4≥0)) rfl hv1 (fun hb hv1=>?_) fun hb hv1=>?_
  ·refine rg ?_
   obtain ⟨x5,hx5,hv1⟩:=bindS hv1
   refine ⟨_,rfl,_,idx_nat hx5,_,idx_row hx5,_,rfl,?_⟩
   cases hv1
   exact wt ⟨lr,Q8⟩ J3 rfl
  refine sk ?_
  cases hv1
  exact wt ⟨lr,Q8⟩ J3 rfl
 refine sq ?_
 refine sg ?_
 refine wT [(1,vi p_from),(2,vs p_name),(3,vi p_to),(4,vs p_as),(5,.b 5 0),(10,.b 10 0),(13,vi x1.1),(15,.b 15 0),(16,vi v1),(60,vb (v1 == x1.1))] [(5,.box [.s (mI p_t.Nodes),vi p_t.Next,vi p_t.Cookie]),(10,.box [.v (.slice none 0 0),vi (0),vi (0)]),(15,.box [vi x2.1.Ino,vi x2.1.Kind,vi x2.1.Links,.s (mD x2.1.Data),.s (mC x2.1.Ents),vi x2.1.Up])] ⟨lr,lr,Q8⟩ J3 rfl ?_
 refine cn 60 (v1 == x1.1) rfl h (fun hb h=>?_) fun hb h=>?_
 ·refine sg ?_
  refine ⟨_,rfl,_,rfl,?_⟩
  refine wT [(10,.b 10 0),(11,vi (0)),(12,vi (0))] [(10,.box [.s (mI p_t.Nodes),vi p_t.Next,vi p_t.Cookie])] Q3 J1 rfl ?_
  refine rt ?_
  cases h
  exact ⟨_,rfl,(Fz.t (.cons (Fz.imm rfl) (.cons Fz.v (.cons Fz.v .nil))))⟩
 refine sk ?_
 refine sg ?_
 obtain ⟨x6,hx6,h⟩:=bindS h
 refine ⟨_,rfl,?_⟩
 refine CallOk.call (w_ref07_Get hx6) (LeL.refl _) ?_
 refine ⟨_,rfl,?_⟩
 refine wT [(1,vi p_from),(2,vs p_name),(3,vi p_to),(4,vs p_as),(5,.b 5 0),(10,.b 10 0),(13,vi x1.1),(15,.b 15 0),(16,vi v1),(18,.b 18 0)] [(5,.box [.s (mI p_t.Nodes),vi p_t.Next,vi p_t.Cookie]),(10,.box [.v (.slice none 0 0),vi (0),vi (0)]),(15,.box [vi x2.1.Ino,vi x2.1.Kind,vi x2.1.Links,.s (mD x2.1.Data),.s (mC x2.1.Ents),vi x2.1.Up]),(18,.box [vi x6.1.Ino,vi x6.1.Kind,vi x6.1.Links,.s (mD x6.1.Data),.s (mC x6.1.Ents),vi x6.1.Up])] ⟨lr,lr,Q8⟩ J4 rfl ?_
 refine sq ?_
 obtain ⟨v2,hv2,h⟩:=bindS h
 refine Ok.seqw ⟨Cat.tab [(1,vi p_from),(2,vs p_name),(3,vi p_to),(4,vs p_as),(5,.b 5 0),(10,.b 10 0),(13,vi x1.1),(15,.b 15 0),(16,vi v1),(18,.b 18 0),(76,vb v2)],[(5,.box [.s (mI p_t.Nodes),vi p_t.Next,vi p_t.Cookie]),(10,.box [.v (.slice none 0 0),vi (0),vi (0)]),(15,.box [vi x2.1.Ino,vi x2.1.Kind,vi x2.1.Links,.s (mD x2.1.Data),.s (mC x2.1.Ents),vi x2.1.Up]),(18,.box [vi x6.1.Ino,vi x6.1.Kind,vi x6.1.Links,.s (mD x6.1.Data),.s (mC x6.1.Ents),vi x6.1.Up])]⟩ ?_ ?_
 ·refine rg ?_
  refine ⟨_,rfl,?_⟩
  obtain ⟨c1,hg1,hv2⟩:=bindS hv2
  refine Br.ite hg1 (fun hb hg1=>?_) fun hb hg1=>?_
  ·obtain ⟨x7,hx7,hg1⟩:=bindS hg1
   refine ⟨_,rfl,?_⟩
   refine CallOk.call (w_ref07N1 hx7) (LeL.refl _) ?_
   cases hg1
   cases hv2
   exact wt ⟨lr,lr,lr,Q8⟩ J4 rfl
  cases hg1
  cases hv2
  exact wt ⟨lr,lr,lr,Q8⟩ J4 rfl
 refine cn 76 (v2) rfl h (fun hb h=>?_) fun hb h=>?_
 ·refine sg ?_
  refine ⟨_,rfl,_,rfl,?_⟩
  refine wT [(10,.b 10 0),(11,vi (0)),(12,vi (75))] [(10,.box [.s (mI p_t.Nodes),vi p_t.Next,vi p_t.Cookie])] Q3 J1 rfl ?_
  refine rt ?_
  cases h
  exact ⟨_,rfl,(Fz.t (.cons (Fz.imm rfl) (.cons Fz.v (.cons Fz.v .nil))))⟩
 refine sk ?_
 refine sg ?_
 obtain ⟨x8,hx8,h⟩:=bindS h
 refine ⟨_,rfl,_,rfl,?_⟩
 refine CallOk.call (w_ref07N8 hx8) (LeL.refl _) ?_
 refine wT [(1,vi p_from),(2,vs p_name),(3,vi p_to),(4,vs p_as),(5,.b 5 0),(10,.b 10 0),(13,vi x1.1),(14,vi x8),(15,.b 15 0),(16,vi v1),(18,.b 18 0)] [(5,.box [.s (mI p_t.Nodes),vi p_t.Next,vi p_t.Cookie]),(10,.box [.v (.slice none 0 0),vi (0),vi (0)]),(15,.box [vi x2.1.Ino,vi x2.1.Kind,vi x2.1.Links,.s (mD x2.1.Data),.s (mC x2.1.Ents),vi x2.1.Up]),(18,.box [vi x6.1.Ino,vi x6.1.Kind,vi x6.1.Links,.s (mD x6.1.Data),.s (mC x6.1.Ents),vi x6.1.Up])] ⟨lr,lr,lr,Q8⟩ J4 rfl ?_
 refine sq ?_
 refine sg ?_
 refine wT [(1,vi p_from),(2,vs p_name),(3,vi p_to),(4,vs p_as),(5,.b 5 0),(10,.b 10 0),(13,vi x1.1),(14,vi x8),(15,.b 15 0),(16,vi v1),(18,.b 18 0),(83,vb (x8 != 0))] [(5,.box [.s (mI p_t.Nodes),vi p_t.Next,vi p_t.Cookie]),(10,.box [.v (.slice none 0 0),vi (0),vi (0)]),(15,.box [vi x2.1.Ino,vi x2.1.Kind,vi x2.1.Links,.s (mD x2.1.Data),.s (mC x2.1.Ents),vi x2.1.Up]),(18,.box [vi x6.1.Ino,vi x6.1.Kind,vi x6.1.Links,.s (mD x6.1.Data),.s (mC x6.1.Ents),vi x6.1.Up])] ⟨lr,lr,lr,lr,Q8⟩ J4 rfl ?_
 refine cn 83 (x8 != 0) rfl h (fun hb h=>?_) fun hb h=>?_
 ·refine sg ?_
  refine ⟨_,rfl,_,rfl,?_⟩
  refine wT [(10,.b 10 0),(11,vi (0)),(12,vi x8)] [(10,.box [.s (mI p_t.Nodes),vi p_t.Next,vi p_t.Cookie])] Q3 J1 rfl ?_
  refine rt ?_
  cases h
  exact ⟨_,rfl,(Fz.t (.cons (Fz.imm rfl) (.cons Fz.v (.cons Fz.v .nil))))⟩
 refine sk ?_
 refine sg ?_
 obtain ⟨x9,hx9,h⟩:=bindS h
 refine ⟨_,rfl,?_⟩
 refine CallOk.call (w_ref07N9 hx9) (LeL.refl _) ?_
 refine wT [(1,vi p_from),(2,vs p_name),(3,vi p_to),(4,vs p_as),(5,.b 5 0),(10,.b 10 0),(13,vi x1.1),(15,.b 15 0),(16,vi v1),(18,.b 18 0),(20,vi x9)] [(5,.box [.s (mI p_t.Nodes),vi p_t.Next,vi p_t.Cookie]),(10,.box [.v (.slice none 0 0),vi (0),vi (0)]),(15,.box [vi x2.1.Ino,vi x2.1.Kind,vi x2.1.Links,.s (mD x2.1.Data),.s (mC x2.1.Ents),vi x2.1.Up]),(18,.box [vi x6.1.Ino,vi x6.1.Kind,vi x6.1.Links,.s (mD x6.1.Data),.s (mC x6.1.Ents),vi x6.1.Up])] ⟨lr,lr,lr,Q8⟩ J4 rfl ?_
 refine sq ?_
 obtain ⟨v3,hv3,h⟩:=bindS h
 refine Ok.seqw ⟨Cat.tab [(1,vi p_from),(2,vs p_name),(3,vi p_to),(4,vs p_as),(5,.b 5 0),(10,.b 10 0),(13,vi x1.1),(16,vi v1),(18,.b 18 0),(123,vb v3)],[(5,.box [.s (mI p_t.Nodes),vi p_t.Next,vi p_t.Cookie]),(10,.box [.v (.slice none 0 0),vi (0),vi (0)]),(18,.box [vi x6.1.Ino,vi x6.1.Kind,vi x6.1.Links,.s (mD x6.1.Data),.s (mC x6.1.Ents),vi x6.1.Up])]⟩ ?_ ?_
 ·refine rg ?_
  obtain ⟨c2,hg2,hv3⟩:=bindS hv3
  refine Br.ite hg2 (fun hb hg2=>?_) fun hb hg2=>?_
  ·cases hg2
   obtain ⟨c3,hg3,hv3⟩:=bindS hv3
   refine Br.ite hg3 (fun hb hg3=>?_) fun hb hg3=>?_
   ·refine ⟨_,rfl,_,List.length_map _,fun _=>?_⟩
    cases hg3
    obtain ⟨c4,hg4,hv3⟩:=bindS hv3
    refine Br.itf hg4 (fun hb hg4=>?_) fun hb hg4=>?_
    ·cases hg4
     obtain ⟨c6,hg5,hv3⟩:=bindS hv3
     replace hg5:=iteT hg5
     cases hg5
     obtain ⟨c7,hg6,hv3⟩:=bindS hv3
     replace hg6:=iteT hg6
     cases hg6
     cases hv3
     exact wt ⟨lr,lr,Q8⟩ J3 rfl
    cases hg4
    obtain ⟨c6,hg7,hv3⟩:=bindS hv3
    refine Br.itf hg7 (fun hb hg7=>?_) fun hb hg7=>?_
    ·cases hg7
     obtain ⟨c7,hg8,hv3⟩:=bindS hv3
     replace hg8:=iteT hg8
     cases hg8
     cases hv3
     exact wt ⟨lr,lr,Q8⟩ J3 rfl
    refine ⟨_,rfl,?_⟩
    obtain ⟨c5,hg9,hg7⟩:=bindS hg7
    refine Br.ite hg9 (fun hb hg9=>?_) fun hb hg9=>?_
    ·obtain ⟨hc1,hg9⟩:=chk_some hg9
     obtain ⟨x10,hx10,hg9⟩:=bindS hg9
     refine ⟨_,rfl,(Or.inl ⟨hc1,?_⟩)⟩
     refine CallOk.call (w_ref07N13 hx10) (LeL.refl _) ?_
     cases hg9
     cases hg7
     obtain ⟨c7,hg10,hv3⟩:=bindS hv3
     refine Br.itf hg10 (fun hb hg10=>?_) fun hb hg10=>?_
     ·cases hg10
      cases hv3
      exact wt ⟨lr,lr,Q8⟩ J3 rfl
     refine ⟨_,rfl,?_⟩
     cases hg10
     cases hv3
     exact wt ⟨lr,lr,Q8⟩ J3 rfl
    cases hg9
    cases hg7
    obtain ⟨c7,hg11,hv3⟩:=bindS hv3
    replace hg11:=iteF hg11
    refine ⟨_,rfl,?_⟩
    cases hg11
    cases hv3
    exact wt ⟨lr,lr,Q8⟩ J3 rfl
   cases hg3
   obtain ⟨c4,hg12,hv3⟩:=bindS hv3
   replace hg12:=iteF hg12
   cases hg12
   obtain ⟨c6,hg13,hv3⟩:=bindS hv3
   refine Br.itf hg13 (fun hb hg13=>?_) fun hb hg13=>?_
   ·cases hg13
    obtain ⟨c7,hg14,hv3⟩:=bindS hv3
    replace hg14:=iteT hg14
    cases hg14
    cases hv3
    exact wt ⟨lr,lr,Q8⟩ J3 rfl
   refine ⟨_,rfl,?_⟩
   obtain ⟨c5,hg15,hg13⟩:=bindS hg13
   refine Br.ite hg15 (fun hb hg15=>?_) fun hb hg15=>?_
   ·obtain ⟨hc1,hg15⟩:=chk_some hg15
    obtain ⟨x10,hx10,hg15⟩:=bindS hg15
    refine ⟨_,rfl,(Or.inl ⟨hc1,?_⟩)⟩
    refine CallOk.call (w_ref07N13 hx10) (LeL.refl _) ?_
    cases hg15
    cases hg13
    obtain ⟨c7,hg16,hv3⟩:=bindS hv3
    refine Br.itf hg16 (fun hb hg16=>?_) fun hb hg16=>?_
    ·cases hg16
     cases hv3
     exact wt ⟨lr,lr,Q8⟩ J3 rfl
    refine ⟨_,rfl,?_⟩
    cases hg16
    cases hv3
    exact wt ⟨lr,lr,Q8⟩ J3 rfl
   cases hg15
   cases hg13
   obtain ⟨c7,hg17,hv3⟩:=bindS hv3
   replace hg17:=iteF hg17
   refine ⟨_,rfl,?_⟩
   cases hg17
   cases hv3
   exact wt ⟨lr,lr,Q8⟩ J3 rfl
  cases hg2
  obtain ⟨c3,hg18,hv3⟩:=bindS hv3
  replace hg18:=iteF hg18
  cases hg18
  obtain ⟨c4,hg19,hv3⟩:=bindS hv3
  replace hg19:=iteF hg19
  cases hg19
  obtain ⟨c6,hg20,hv3⟩:=bindS hv3
  refine Br.itf hg20 (fun hb hg20=>?_) fun hb hg20=>?_
  ·cases hg20
   obtain ⟨c7,hg21,hv3⟩:=bindS hv3
   replace hg21:=iteT hg21
   cases hg21
   cases hv3
   exact wt ⟨lr,lr,Q8⟩ J3 rfl
  refine ⟨_,rfl,?_⟩
  obtain ⟨c5,hg22,hg20⟩:=bindS hg20
  refine Br.ite hg22 (fun hb hg22=>?_) fun hb hg22=>?_
  ·obtain ⟨hc1,hg22⟩:=chk_some hg22
   obtain ⟨x10,hx10,hg22⟩:=bindS hg22
   refine ⟨_,rfl,(Or.inl ⟨hc1,?_⟩)⟩
   refine CallOk.call (w_ref07N13 hx10) (LeL.refl _) ?_
   cases hg22
   cases hg20
   obtain ⟨c7,hg23,hv3⟩:=bindS hv3
   refine Br.itf hg23 (fun hb hg23=>?_) fun hb hg23=>?_
   ·cases hg23
    cases hv3
    exact wt ⟨lr,lr,Q8⟩ J3 rfl
   refine ⟨_,rfl,?_⟩
   cases hg23
   cases hv3
   exact wt ⟨lr,lr,Q8⟩ J3 rfl
  cases hg22
  cases hg20
  obtain ⟨c7,hg24,hv3⟩:=bindS hv3
  replace hg24:=iteF hg24
  refine ⟨_,rfl,?_⟩
  cases hg24
  cases hv3
  exact wt ⟨lr,lr,Q8⟩ J3 rfl
 refine cn 123 (v3) rfl h (fun hb h=>?_) fun hb h=>?_
 ·refine sg ?_
  refine ⟨_,rfl,_,rfl,?_⟩
  refine wT [(10,.b 10 0),(11,vi (0)),(12,vi (76))] [(10,.box [.s (mI p_t.Nodes),vi p_t.Next,vi p_t.Cookie])] Q3 J1 rfl ?_
  refine rt ?_
  cases h
  exact ⟨_,rfl,(Fz.t (.cons (Fz.imm rfl) (.cons Fz.v (.cons Fz.v .nil))))⟩
 refine sk ?_
 refine sg ?_
 obtain ⟨x11,hx11,h⟩:=bindS h
 refine ⟨_,rfl,?_⟩
 refine CallOk.call (w_ref07N14 hx11) (LeL.refl _) ?_
 refine ⟨_,rfl,?_⟩
 refine wT [(3,vi p_to),(4,vs p_as),(10,.b 10 0),(13,vi x1.1),(16,vi v1),(18,.b 18 0),(21,.b 21 0)] [(10,.box [.v (.slice none 0 0),vi (0),vi (0)]),(18,.box [vi x6.1.Ino,vi x6.1.Kind,vi x6.1.Links,.s (mD x6.1.Data),.s (mC x6.1.Ents),vi x6.1.Up]),(21,.box [.s (mI x11.Nodes),vi x11.Next,vi x11.Cookie])] Q7 J3 rfl ?_
 obtain ⟨v4,hv4,h⟩:=bindS h
 refine Ok.seqw ⟨Cat.tab [(3,vi p_to),(4,vs p_as),(10,.b 10 0),(13,vi x1.1),(16,vi v1),(18,.b 18 0),(21,.b 21 0)],[(10,.box [.v (.slice none 0 0),vi (0),vi (0)]),(18,.box [vi x6.1.Ino,vi x6.1.Kind,vi x6.1.Links,.s (mD x6.1.Data),.s (mC x6.1.Ents),vi x6.1.Up]),(21,.box [.s (mI v4.1),vi v4.2.1,vi v4.2.2])]⟩ ?_ ?_
 ·refine sg ?_
  refine wT [(3,vi p_to),(4,vs p_as),(10,.b 10 0),(13,vi x1.1),(16,vi v1),(18,.b 18 0),(21,.b 21 0),(130,vb (v1 != 0))] [(10,.box [.v (.slice none 0 0),vi (0),vi (0)]),(18,.box [vi x6.1.Ino,vi x6.1.Kind,vi x6.1.Links,.s (mD x6.1.Data),.s (mC x6.1.Ents),vi x6.1.Up]),(21,.box [.s (mI x11.Nodes),vi x11.Next,vi x11.Cookie])] Q8 J3 rfl ?_
  refine cn 130 (v1 != 0) rfl hv4 (fun hb hv4=>?_) fun hb hv4=>?_
  ·refine rg ?_
   obtain ⟨x12,hx12,hv4⟩:=bindS hv4
   refine ⟨_,rfl,?_⟩
   refine CallOk.call (w_ref07N14 hx12) (LeL.refl _) ?_
   obtain ⟨x13,hx13,hv4⟩:=bindS hv4
   refine CallOk.call (w_ref07N17 hx13) (LeL.refl _) ?_
   refine ⟨_,rfl,?_⟩
   cases hv4
   exact wt Q7 J3 rfl
  refine sk ?_
  cases hv4
  exact wt Q7 J3 rfl
 obtain ⟨v5,hv5,h⟩:=bindS h
 refine Ok.seqw ⟨Cat.tab [(3,vi p_to),(4,vs p_as),(10,.b 10 0),(13,vi x1.1),(16,vi v1),(21,.b 21 0)],[(10,.box [.v (.slice none 0 0),vi (0),vi (0)]),(21,.box [.s (mI v5.1),vi v5.2.1,vi v5.2.2])]⟩ ?_ ?_
 ·refine sg ?_
  refine ⟨_,rfl,?_⟩
  refine wT [(3,vi p_to),(4,vs p_as),(10,.b 10 0),(13,vi x1.1),(16,vi v1),(18,.b 18 0),(21,.b 21 0),(139,vb (x6.1.Kind == 2))] [(10,.box [.v (.slice none 0 0),vi (0),vi (0)]),(18,.box [vi x6.1.Ino,vi x6.1.Kind,vi x6.1.Links,.s (mD x6.1.Data),.s (mC x6.1.Ents),vi x6.1.Up]),(21,.box [.s (mI v4.1),vi v4.2.1,vi v4.2.2])] Q8 J3 rfl ?_
  refine cn 139 (x6.1.Kind == 2) rfl hv5 (fun hb hv5=>?_) fun hb hv5=>?_
  ·refine sg ?_
   refine ⟨_,rfl,?_⟩
   refine wT [(3,vi p_to),(4,vs p_as),(10,.b 10 0),(13,vi x1.1),(16,vi v1),(18,.b 18 0),(21,.b 21 0)] [(10,.box [.v (.slice none 0 0),vi (0),vi (0)]),(18,.box [vi x6.1.Ino,vi x6.1.Kind,vi x6.1.Links,.s (mD x6.1.Data),.s (mC x6.1.Ents),vi p_to]),(21,.box [.s (mI v4.1),vi v4.2.1,vi v4.2.2])] Q7 J3 rfl ?_
   refine rg ?_
   obtain ⟨x14,hx14,hv5⟩:=bindS hv5
   refine ⟨_,rfl,_,rfl,?_⟩
   refine CallOk.call (w_ref07N18 hx14) (LeL.refl _) ?_
   refine ⟨_,rfl,?_⟩
   cases hv5
   exact wt Q6 J2 rfl
  refine sk ?_
  cases hv5
  exact wt Q6 J2 rfl
 refine sg ?_
 obtain ⟨x15,hx15,h⟩:=bindS h
 refine ⟨_,rfl,?_⟩
 refine CallOk.call (w_ref07N11 hx15) (LeL.refl _) ?_
 refine ⟨_,rfl,?_⟩
 refine wT [(10,.b 10 0),(11,vi v1),(12,vi (0))] [(10,.box [.s (mI x15.Nodes),vi x15.Next,vi x15.Cookie])] Q3 J1 rfl ?_
 refine rt ?_
 cases h
 exact ⟨_,rfl,(Fz.t (.cons (Fz.imm rfl) (.cons Fz.v (.cons Fz.v .nil))))⟩
theorem w_ref07_Put {p_t} {p_ino} {p_data} {r} (h:ref07_Put p_t p_ino p_data=some r):Pure Tryz.prog 56 [(.a [(.s (mI p_t.Nodes)),(vi p_t.Next),(vi p_t.Cookie)]),(vi p_ino),(.s (mD p_data))] (.t [(.a [(.s (mI r.1.Nodes)),(vi r.1.Next),(vi r.1.Cookie)]),(vi r.2)]):=by
 refine po Tryz.tok 34 Tryz.func56 (by kernel_rfl) rfl rfl rfl ?_
 unfold ref07_Put at h
 refine wE [(0,.a [.s (mI p_t.Nodes),vi p_t.Next,vi p_t.Cookie]),(1,vi p_ino),(2,.s (mD p_data))] Q3 ?_
 refine sg ?_
 refine wT [(1,vi p_ino),(2,.s (mD p_data)),(3,.b 3 0),(6,.b 6 0)] [(3,.box [.s (mI p_t.Nodes),vi p_t.Next,vi p_t.Cookie]),(6,.box [.v (.slice none 0 0),vi (0),vi (0)])] Q4 J2 rfl ?_
 refine sg ?_
 obtain ⟨x1,hx1,h⟩:=bindS h
 refine ⟨_,rfl,?_⟩
 refine CallOk.call (w_ref07_Get hx1) (LeL.refl _) ?_
 refine ⟨_,rfl,?_⟩
 refine wT [(2,.s (mD p_data)),(3,.b 3 0),(6,.b 6 0),(8,.b 8 0),(9,vb x1.2)] [(3,.box [.s (mI p_t.Nodes),vi p_t.Next,vi p_t.Cookie]),(6,.box [.v (.slice none 0 0),vi (0),vi (0)]),(8,.box [vi x1.1.Ino,vi x1.1.Kind,vi x1.1.Links,.s (mD x1.1.Data),.s (mC x1.1.Ents),vi x1.1.Up])] Q5 J3 rfl ?_
 refine sq ?_
 refine sg ?_
 refine wT [(2,.s (mD p_data)),(3,.b 3 0),(6,.b 6 0),(8,.b 8 0),(17,vb (!x1.2))] [(3,.box [.s (mI p_t.Nodes),vi p_t.Next,vi p_t.Cookie]),(6,.box [.v (.slice none 0 0),vi (0),vi (0)]),(8,.box [vi x1.1.Ino,vi x1.1.Kind,vi x1.1.Links,.s (mD x1.1.Data),.s (mC x1.1.Ents),vi x1.1.Up])] Q5 J3 rfl ?_
 refine cn 17 (!x1.2) rfl h (fun hb h=>?_) fun hb h=>?_
 ·refine sg ?_
  refine ⟨_,rfl,_,rfl,?_⟩
  refine wT [(6,.b 6 0),(7,vi (70))] [(6,.box [.s (mI p_t.Nodes),vi p_t.Next,vi p_t.Cookie])] Q2 J1 rfl ?_
  refine rt ?_
  cases h
  exact ⟨_,rfl,(Fz.t (.cons (Fz.imm rfl) (.cons Fz.v .nil)))⟩
 refine sk ?_
 refine sq ?_
 refine sg ?_
 refine ⟨_,rfl,?_⟩
 refine wT [(2,.s (mD p_data)),(3,.b 3 0),(6,.b 6 0),(8,.b 8 0),(21,vb (x1.1.Kind == 2))] [(3,.box [.s (mI p_t.Nodes),vi p_t.Next,vi p_t.Cookie]),(6,.box [.v (.slice none 0 0),vi (0),vi (0)]),(8,.box [vi x1.1.Ino,vi x1.1.Kind,vi x1.1.Links,.s (mD x1.1.Data),.s (mC x1.1.Ents),vi x1.1.Up])] Q5 J3 rfl ?_
 refine cn 21 (x1.1.Kind == 2) rfl h (fun hb h=>?_) fun hb h=>?_
 ·refine sg ?_
  refine ⟨_,rfl,_,rfl,?_⟩
  refine wT [(6,.b 6 0),(7,vi (72))] [(6,.box [.s (mI p_t.Nodes),vi p_t.Next,vi p_t.Cookie])] Q2 J1 rfl ?_
  refine rt ?_
  cases h
  exact ⟨_,rfl,(Fz.t (.cons (Fz.imm rfl) (.cons Fz.v .nil)))⟩
 refine sk ?_
 refine sq ?_
 refine sg ?_
 refine ⟨_,List.length_map _,fun _=>?_⟩
 refine wT [(2,.s (mD p_data)),(3,.b 3 0),(6,.b 6 0),(8,.b 8 0),(25,vb (decide ((p_data.length:Int) > 4096)))] [(3,.box [.s (mI p_t.Nodes),vi p_t.Next,vi p_t.Cookie]),(6,.box [.v (.slice none 0 0),vi (0),vi (0)]),(8,.box [vi x1.1.Ino,vi x1.1.Kind,vi x1.1.Links,.s (mD x1.1.Data),.s (mC x1.1.Ents),vi x1.1.Up])] Q5 J3 rfl ?_
 refine cn 25 (decide ((p_data.length:Int) > 4096)) rfl h (fun hb h=>?_) fun hb h=>?_
 ·refine sg ?_
  refine ⟨_,rfl,_,rfl,?_⟩
  refine wT [(6,.b 6 0),(7,vi (2))] [(6,.box [.s (mI p_t.Nodes),vi p_t.Next,vi p_t.Cookie])] Q2 J1 rfl ?_
  refine rt ?_
  cases h
  exact ⟨_,rfl,(Fz.t (.cons (Fz.imm rfl) (.cons Fz.v .nil)))⟩
 refine sk ?_
 refine sg ?_
 obtain ⟨hc1,h⟩:=chk_some h
 refine Or.inr ⟨rowsLen_map (f:=cU8) (n:=1) (fun _=>rfl) p_data,app_b2 (f:=cU8) (l:=([]:List UInt8)) (l':=p_data) hc1,_,(List.map_append (f:=cU8) (l₁:=([]:List UInt8)) (l₂:=p_data)).symm,_,rfl,?_⟩
 refine wT [(3,.b 3 0),(6,.b 6 0),(8,.b 8 0)] [(3,.box [.s (mI p_t.Nodes),vi p_t.Next,vi p_t.Cookie]),(6,.box [.v (.slice none 0 0),vi (0),vi (0)]),(8,.box [vi x1.1.Ino,vi x1.1.Kind,vi x1.1.Links,.o 27,.s (mC x1.1.Ents),vi x1.1.Up]),(27,.own 5 1 (mD (([]:List UInt8)++p_data)))] Q3 J4 rfl ?_
 refine sg ?_
 obtain ⟨x2,hx2,h⟩:=bindS h
 refine ⟨_,rfl,_,rfl,?_⟩
 refine CallOk.freeze (id:=27) rfl (CallOk.call (w_ref07N18 hx2) (LeL.refl _) ?_)
 refine ⟨_,rfl,?_⟩
 refine wT [(6,.b 6 0),(7,vi (0))] [(6,.box [.s (mI x2.Nodes),vi x2.Next,vi x2.Cookie])] Q2 J1 rfl ?_
 refine rt ?_
 cases h
 exact ⟨_,rfl,(Fz.t (.cons (Fz.imm rfl) (.cons Fz.v .nil)))⟩
theorem w_ref07N2 {p_t} {p_ino} {r} (h:ref07_Free p_t p_ino=some r):Pure Tryz.prog 57 [(.a [(.s (mI p_t.Nodes)),(vi p_t.Next),(vi p_t.Cookie)]),(vi p_ino)] (.t [(.a [(.s (mI r.1.Nodes)),(vi r.1.Next),(vi r.1.Cookie)]),(vi r.2)]):=by
 refine po Tryz.tok 28 Tryz.func57 (by kernel_rfl) rfl rfl rfl ?_
 unfold ref07_Free at h
 refine wE [(0,.a [.s (mI p_t.Nodes),vi p_t.Next,vi p_t.Cookie]),(1,vi p_ino)] Q2 ?_
 refine sg ?_
 refine wT [(1,vi p_ino),(2,.b 2 0),(4,.b 4 0)] [(2,.box [.s (mI p_t.Nodes),vi p_t.Next,vi p_t.Cookie]),(4,.box [.v (.slice none 0 0),vi (0),vi (0)])] Q3 J2 rfl ?_
 refine sg ?_
 obtain ⟨x1,hx1,h⟩:=bindS h
 refine ⟨_,rfl,?_⟩
 refine CallOk.call (w_ref07_Get hx1) (LeL.refl _) ?_
 refine ⟨_,rfl,?_⟩
 refine wT [(1,vi p_ino),(2,.b 2 0),(4,.b 4 0),(6,.b 6 0),(7,vb x1.2)] [(2,.box [.s (mI p_t.Nodes),vi p_t.Next,vi p_t.Cookie]),(4,.box [.v (.slice none 0 0),vi (0),vi (0)]),(6,.box [vi x1.1.Ino,vi x1.1.Kind,vi x1.1.Links,.s (mD x1.1.Data),.s (mC x1.1.Ents),vi x1.1.Up])] Q5 J3 rfl ?_
 refine sq ?_
 refine sg ?_
 refine wT [(1,vi p_ino),(2,.b 2 0),(4,.b 4 0),(6,.b 6 0),(15,vb (!x1.2))] [(2,.box [.s (mI p_t.Nodes),vi p_t.Next,vi p_t.Cookie]),(4,.box [.v (.slice none 0 0),vi (0),vi (0)]),(6,.box [vi x1.1.Ino,vi x1.1.Kind,vi x1.1.Links,.s (mD x1.1.Data),.s (mC x1.1.Ents),vi x1.1.Up])] Q5 J3 rfl ?_
 refine cn 15 (!x1.2) rfl h (fun hb h=>?_) fun hb h=>?_
 ·refine sg ?_
  refine ⟨_,rfl,_,rfl,?_⟩
  refine wT [(4,.b 4 0),(5,vi (70))] [(4,.box [.s (mI p_t.Nodes),vi p_t.Next,vi p_t.Cookie])] Q2 J1 rfl ?_
  refine rt ?_
  cases h
  exact ⟨_,rfl,(Fz.t (.cons (Fz.imm rfl) (.cons Fz.v .nil)))⟩
 refine sk ?_
 refine sq ?_
 refine sg ?_
 refine ⟨_,rfl,?_⟩
 refine wT [(1,vi p_ino),(2,.b 2 0),(4,.b 4 0),(6,.b 6 0),(19,vb (x1.1.Kind == 2))] [(2,.box [.s (mI p_t.Nodes),vi p_t.Next,vi p_t.Cookie]),(4,.box [.v (.slice none 0 0),vi (0),vi (0)]),(6,.box [vi x1.1.Ino,vi x1.1.Kind,vi x1.1.Links,.s (mD x1.1.Data),.s (mC x1.1.Ents),vi x1.1.Up])] Q5 J3 rfl ?_
 refine cn 19 (x1.1.Kind == 2) rfl h (fun hb h=>?_) fun hb h=>?_
 ·refine sg ?_
  refine ⟨_,rfl,_,rfl,?_⟩
  refine wT [(4,.b 4 0),(5,vi (72))] [(4,.box [.s (mI p_t.Nodes),vi p_t.Next,vi p_t.Cookie])] Q2 J1 rfl ?_
  refine rt ?_
  cases h
  exact ⟨_,rfl,(Fz.t (.cons (Fz.imm rfl) (.cons Fz.v .nil)))⟩
 refine sk ?_
 refine sq ?_
 refine sg ?_
 refine ⟨_,rfl,?_⟩
 refine wT [(1,vi p_ino),(2,.b 2 0),(4,.b 4 0),(23,vb (decide (x1.1.Links > 0)))] [(2,.box [.s (mI p_t.Nodes),vi p_t.Next,vi p_t.Cookie]),(4,.box [.v (.slice none 0 0),vi (0),vi (0)])] Q4 J2 rfl ?_
 refine cn 23 (decide (x1.1.Links > 0)) rfl h (fun hb h=>?_) fun hb h=>?_
 ·refine sg ?_
  refine ⟨_,rfl,_,rfl,?_⟩
  refine wT [(4,.b 4 0),(5,vi (71))] [(4,.box [.s (mI p_t.Nodes),vi p_t.Next,vi p_t.Cookie])] Q2 J1 rfl ?_
  refine rt ?_
  cases h
  exact ⟨_,rfl,(Fz.t (.cons (Fz.imm rfl) (.cons Fz.v .nil)))⟩
 refine sk ?_
 refine sg ?_
 obtain ⟨x2,hx2,h⟩:=bindS h
 refine ⟨_,rfl,?_⟩
 refine CallOk.call (w_ref07N19 hx2) (LeL.refl _) ?_
 refine ⟨_,rfl,?_⟩
 refine wT [(4,.b 4 0),(5,vi (0))] [(4,.box [.s (mI x2.Nodes),vi x2.Next,vi x2.Cookie])] Q2 J1 rfl ?_
 refine rt ?_
 cases h
 exact ⟨_,rfl,(Fz.t (.cons (Fz.imm rfl) (.cons Fz.v .nil)))⟩
set_option maxHeartbeats 4000000 in
theorem w_law07N1 {p_t} {p_s} {r} (h:law07_Done p_t p_s=some r):Pure Tryz.prog 23 [(.a [(.s (mI p_t.Nodes)),(vi p_t.Next),(vi p_t.Cookie)]),(.a [(vu p_s.Kind),(vu p_s.A),(vu p_s.B),(vu p_s.N),(vu p_s.M),(.s (mD p_s.Data))])] (.t [(.a [(.s (mI r.1.Nodes)),(vi r.1.Next),(vi r.1.Cookie)]),(vi r.2.1),(vi r.2.2)]):=by
 refine po Tryz.tok 123 Tryz.func23 (by kernel_rfl) rfl rfl rfl ?_
 unfold law07_Done at h
 refine wE [(0,.a [.s (mI p_t.Nodes),vi p_t.Next,vi p_t.Cookie]),(1,.a [vu p_s.Kind,vu p_s.A,vu p_s.B,vu p_s.N,vu p_s.M,.s (mD p_s.Data)])] Q2 ?_
 refine sg ?_
 refine wT [(2,.b 2 0),(3,.b 3 0),(4,.b 4 0)] [(2,.box [.s (mI p_t.Nodes),vi p_t.Next,vi p_t.Cookie]),(3,.box [vu p_s.Kind,vu p_s.A,vu p_s.B,vu p_s.N,vu p_s.M,.s (mD p_s.Data)]),(4,.box [.v (.slice none 0 0),vi (0),vi (0)])] Q3 J3 rfl ?_
 refine sg ?_
 obtain ⟨x1,hx1,h⟩:=bindS h
 refine ⟨_,rfl,_,rfl,?_⟩
 refine CallOk.call (w_law07N3 hx1) (LeL.refl _) ?_
 refine wT [(2,.b 2 0),(3,.b 3 0),(4,.b 4 0),(7,vi x1)] [(2,.box [.s (mI p_t.Nodes),vi p_t.Next,vi p_t.Cookie]),(3,.box [vu p_s.Kind,vu p_s.A,vu p_s.B,vu p_s.N,vu p_s.M,.s (mD p_s.Data)]),(4,.box [.v (.slice none 0 0),vi (0),vi (0)])] Q4 J3 rfl ?_
 refine sg ?_
 obtain ⟨x2,hx2,h⟩:=bindS h
 refine ⟨_,rfl,_,rfl,?_⟩
 refine CallOk.call (w_law07N3 hx2) (LeL.refl _) ?_
 refine wT [(2,.b 2 0),(3,.b 3 0),(4,.b 4 0),(7,vi x1),(8,vi x2)] [(2,.box [.s (mI p_t.Nodes),vi p_t.Next,vi p_t.Cookie]),(3,.box [vu p_s.Kind,vu p_s.A,vu p_s.B,vu p_s.N,vu p_s.M,.s (mD p_s.Data)]),(4,.box [.v (.slice none 0 0),vi (0),vi (0)])] Q5 J3 rfl ?_
 refine sg ?_
 obtain ⟨x3,hx3,h⟩:=bindS h
 refine ⟨_,rfl,?_⟩
 refine CallOk.call (w_law07N2 hx3) (LeL.refl _) ?_
 refine wT [(2,.b 2 0),(3,.b 3 0),(4,.b 4 0),(7,vi x1),(8,vi x2),(9,vs x3)] [(2,.box [.s (mI p_t.Nodes),vi p_t.Next,vi p_t.Cookie]),(3,.box [vu p_s.Kind,vu p_s.A,vu p_s.B,vu p_s.N,vu p_s.M,.s (mD p_s.Data)]),(4,.box [.v (.slice none 0 0),vi (0),vi (0)])] Q6 J3 rfl ?_
 refine sg ?_
 obtain ⟨x4,hx4,h⟩:=bindS h
 refine ⟨_,rfl,?_⟩
 refine CallOk.call (w_law07N2 hx4) (LeL.refl _) ?_
 refine wT [(2,.b 2 0),(3,.b 3 0),(4,.b 4 0),(7,vi x1),(8,vi x2),(9,vs x3),(10,vs x4)] [(2,.box [.s (mI p_t.Nodes),vi p_t.Next,vi p_t.Cookie]),(3,.box [vu p_s.Kind,vu p_s.A,vu p_s.B,vu p_s.N,vu p_s.M,.s (mD p_s.Data)]),(4,.box [.v (.slice none 0 0),vi (0),vi (0)])] Q7 J3 rfl ?_
 refine sq ?_
 refine sg ?_
 refine ⟨_,rfl,(by decide),_,b8_rem _ _,?_⟩
 refine wT [(2,.b 2 0),(3,.b 3 0),(4,.b 4 0),(7,vi x1),(8,vi x2),(9,vs x3),(10,vs x4),(42,vu (toU8 (Int.tmod (p_s.Kind.toNat:Int) (8))))] [(2,.box [.s (mI p_t.Nodes),vi p_t.Next,vi p_t.Cookie]),(3,.box [vu p_s.Kind,vu p_s.A,vu p_s.B,vu p_s.N,vu p_s.M,.s (mD p_s.Data)]),(4,.box [.v (.slice none 0 0),vi (0),vi (0)])] Q8 J3 rfl ?_
 refine bl ?_
 obtain ⟨v1,hv1,h⟩:=bindS h
 refine Ok.seqw ⟨Cat.tab [(2,.b 2 0),(3,.b 3 0),(4,.b 4 0),(7,vi x1),(8,vi x2),(9,vs x3),(10,vs x4),(42,vu (toU8 (Int.tmod (p_s.Kind.toNat:Int) (8)))),(43,vb v1)],[(2,.box [.s (mI p_t.Nodes),vi p_t.Next,vi p_t.Cookie]),(3,.box [vu p_s.Kind,vu p_s.A,vu p_s.B,vu p_s.N,vu p_s.M,.s (mD p_s.Data)]),(4,.box [.v (.slice none 0 0),vi (0),vi (0)])]⟩ ?_ ?_
 ·refine sg ?_
  refine wT [(2,.b 2 0),(3,.b 3 0),(4,.b 4 0),(7,vi x1),(8,vi x2),(9,vs x3),(10,vs x4),(42,vu (toU8 (Int.tmod (p_s.Kind.toNat:Int) (8)))),(43,vb (((toU8 (Int.tmod (p_s.Kind.toNat:Int) (8))).toNat:Int) == 0))] [(2,.box [.s (mI p_t.Nodes),vi p_t.Next,vi p_t.Cookie]),(3,.box [vu p_s.Kind,vu p_s.A,vu p_s.B,vu p_s.N,vu p_s.M,.s (mD p_s.Data)]),(4,.box [.v (.slice none 0 0),vi (0),vi (0)])] ⟨lr,Q8⟩ J3 rfl ?_
  refine cn 43 (((toU8 (Int.tmod (p_s.Kind.toNat:Int) (8))).toNat:Int) == 0) rfl hv1 (fun hb hv1=>?_) fun hb hv1=>?_
  ·refine sk ?_
   cases hv1
   exact wt ⟨lr,Q8⟩ J3 rfl
  refine rg ?_
  cases hv1
  exact wt ⟨lr,Q8⟩ J3 rfl
 refine cn 43 (v1) rfl h (fun hb h=>?_) fun hb h=>?_
 ·refine sg ?_
  obtain ⟨hc1,h⟩:=chk_some h
  obtain ⟨x5,hx5,h⟩:=bindS h
  refine ⟨_,rfl,_,rfl,_,wrap_of_u8 (k:=.i64) (by decide) _,(by decide),_,rfl,(Or.inl ⟨hc1,?_⟩)⟩
  refine CallOk.call (w_ref07_Add hx5) (LeL.refl _) ?_
  refine ⟨_,rfl,?_⟩
  refine wT [(4,.b 4 0),(11,.b 11 0),(12,vi x5.2.1),(13,vi x5.2.2)] [(4,.box [.v (.slice none 0 0),vi (0),vi (0)]),(11,.box [.s (mI x5.1.Nodes),vi x5.1.Next,vi x5.1.Cookie])] Q4 J2 rfl ?_
  refine sg ?_
  refine ⟨_,rfl,_,rfl,?_⟩
  refine wT [(4,.b 4 0),(5,vi x5.2.1),(6,vi x5.2.2)] [(4,.box [.s (mI x5.1.Nodes),vi x5.1.Next,vi x5.1.Cookie])] Q3 J1 rfl ?_
  refine rt ?_
  cases h
  exact ⟨_,rfl,(Fz.t (.cons (Fz.imm rfl) (.cons Fz.v (.cons Fz.v .nil))))⟩
 refine sg ?_
 refine wT [(2,.b 2 0),(3,.b 3 0),(4,.b 4 0),(7,vi x1),(8,vi x2),(9,vs x3),(10,vs x4),(42,vu (toU8 (Int.tmod (p_s.Kind.toNat:Int) (8)))),(62,vb (((toU8 (Int.tmod (p_s.Kind.toNat:Int) (8))).toNat:Int) == 2))] [(2,.box [.s (mI p_t.Nodes),vi p_t.Next,vi p_t.Cookie]),(3,.box [vu p_s.Kind,vu p_s.A,vu p_s.B,vu p_s.N,vu p_s.M,.s (mD p_s.Data)]),(4,.box [.v (.slice none 0 0),vi (0),vi (0)])] ⟨lr,Q8⟩ J3 rfl ?_
 refine cn 62 (((toU8 (Int.tmod (p_s.Kind.toNat:Int) (8))).toNat:Int) == 2) rfl h (fun hb h=>?_) fun hb h=>?_
 ·refine sg ?_
  obtain ⟨x6,hx6,h⟩:=bindS h
  refine ⟨_,rfl,?_⟩
  refine CallOk.call (w_ref07_Ln hx6) (LeL.refl _) ?_
  refine ⟨_,rfl,?_⟩
  refine wT [(4,.b 4 0),(14,.b 14 0),(15,vi x6.2)] [(4,.box [.v (.slice none 0 0),vi (0),vi (0)]),(14,.box [.s (mI x6.1.Nodes),vi x6.1.Next,vi x6.1.Cookie])] Q3 J2 rfl ?_
  refine sg ?_
  refine ⟨_,rfl,_,rfl,?_⟩
  refine wT [(4,.b 4 0),(5,vi (0)),(6,vi x6.2)] [(4,.box [.s (mI x6.1.Nodes),vi x6.1.Next,vi x6.1.Cookie])] Q3 J1 rfl ?_
  refine rt ?_
  cases h
  exact ⟨_,rfl,(Fz.t (.cons (Fz.imm rfl) (.cons Fz.v (.cons Fz.v .nil))))⟩
 refine sg ?_
 refine wT [(2,.b 2 0),(3,.b 3 0),(4,.b 4 0),(7,vi x1),(8,vi x2),(9,vs x3),(10,vs x4),(42,vu (toU8 (Int.tmod (p_s.Kind.toNat:Int) (8)))),(74,vb (((toU8 (Int.tmod (p_s.Kind.toNat:Int) (8))).toNat:Int) == 3))] [(2,.box [.s (mI p_t.Nodes),vi p_t.Next,vi p_t.Cookie]),(3,.box [vu p_s.Kind,vu p_s.A,vu p_s.B,vu p_s.N,vu p_s.M,.s (mD p_s.Data)]),(4,.box [.v (.slice none 0 0),vi (0),vi (0)])] ⟨lr,Q8⟩ J3 rfl ?_
 refine cn 74 (((toU8 (Int.tmod (p_s.Kind.toNat:Int) (8))).toNat:Int) == 3) rfl h (fun hb h=>?_) fun hb h=>?_
 ·refine sg ?_
  obtain ⟨x7,hx7,h⟩:=bindS h
  refine ⟨_,rfl,?_⟩
  refine CallOk.call (w_ref07_Un hx7) (LeL.refl _) ?_
  refine ⟨_,rfl,?_⟩
  refine wT [(4,.b 4 0),(16,.b 16 0),(17,vi x7.2.1),(18,vi x7.2.2)] [(4,.box [.v (.slice none 0 0),vi (0),vi (0)]),(16,.box [.s (mI x7.1.Nodes),vi x7.1.Next,vi x7.1.Cookie])] Q4 J2 rfl ?_
  refine sg ?_
  refine ⟨_,rfl,_,rfl,?_⟩
  refine wT [(4,.b 4 0),(5,vi x7.2.1),(6,vi x7.2.2)] [(4,.box [.s (mI x7.1.Nodes),vi x7.1.Next,vi x7.1.Cookie])] Q3 J1 rfl ?_
  refine rt ?_
  cases h
  exact ⟨_,rfl,(Fz.t (.cons (Fz.imm rfl) (.cons Fz.v (.cons Fz.v .nil))))⟩
 obtain ⟨v2,hv2,h⟩:=bindS h
 refine Ok.seqw ⟨Cat.tab [(2,.b 2 0),(3,.b 3 0),(4,.b 4 0),(7,vi x1),(8,vi x2),(9,vs x3),(10,vs x4),(42,vu (toU8 (Int.tmod (p_s.Kind.toNat:Int) (8)))),(87,vb v2)],[(2,.box [.s (mI p_t.Nodes),vi p_t.Next,vi p_t.Cookie]),(3,.box [vu p_s.Kind,vu p_s.A,vu p_s.B,vu p_s.N,vu p_s.M,.s (mD p_s.Data)]),(4,.box [.v (.slice none 0 0),vi (0),vi (0)])]⟩ ?_ ?_
 ·refine sg ?_
  refine wT [(2,.b 2 0),(3,.b 3 0),(4,.b 4 0),(7,vi x1),(8,vi x2),(9,vs x3),(10,vs x4),(42,vu (toU8 (Int.tmod (p_s.Kind.toNat:Int) (8)))),(87,vb (((toU8 (Int.tmod (p_s.Kind.toNat:Int) (8))).toNat:Int) == 4))] [(2,.box [.s (mI p_t.Nodes),vi p_t.Next,vi p_t.Cookie]),(3,.box [vu p_s.Kind,vu p_s.A,vu p_s.B,vu p_s.N,vu p_s.M,.s (mD p_s.Data)]),(4,.box [.v (.slice none 0 0),vi (0),vi (0)])] ⟨lr,Q8⟩ J3 rfl ?_
  refine cn 87 (((toU8 (Int.tmod (p_s.Kind.toNat:Int) (8))).toNat:Int) == 4) rfl hv2 (fun hb hv2=>?_) fun hb hv2=>?_
  ·refine sk ?_
   cases hv2
   exact wt ⟨lr,Q8⟩ J3 rfl
  refine rg ?_
  cases hv2
  exact wt ⟨lr,Q8⟩ J3 rfl
 refine cn 87 (v2) rfl h (fun hb h=>?_) fun hb h=>?_
 ·refine sg ?_
  obtain ⟨x8,hx8,h⟩:=bindS h
  refine ⟨_,rfl,?_⟩
  refine CallOk.call (w_ref07_Mv hx8) (LeL.refl _) ?_
  refine ⟨_,rfl,?_⟩
  refine wT [(4,.b 4 0),(19,.b 19 0),(20,vi x8.2.1),(21,vi x8.2.2)] [(4,.box [.v (.slice none 0 0),vi (0),vi (0)]),(19,.box [.s (mI x8.1.Nodes),vi x8.1.Next,vi x8.1.Cookie])] Q4 J2 rfl ?_
  refine sg ?_
  refine ⟨_,rfl,_,rfl,?_⟩
  refine wT [(4,.b 4 0),(5,vi x8.2.1),(6,vi x8.2.2)] [(4,.box [.s (mI x8.1.Nodes),vi x8.1.Next,vi x8.1.Cookie])] Q3 J1 rfl ?_
  refine rt ?_
  cases h
  exact ⟨_,rfl,(Fz.t (.cons (Fz.imm rfl) (.cons Fz.v (.cons Fz.v .nil))))⟩
 refine sg ?_
 refine wT [(2,.b 2 0),(3,.b 3 0),(4,.b 4 0),(7,vi x1),(103,vb (((toU8 (Int.tmod (p_s.Kind.toNat:Int) (8))).toNat:Int) == 6))] [(2,.box [.s (mI p_t.Nodes),vi p_t.Next,vi p_t.Cookie]),(3,.box [vu p_s.Kind,vu p_s.A,vu p_s.B,vu p_s.N,vu p_s.M,.s (mD p_s.Data)]),(4,.box [.v (.slice none 0 0),vi (0),vi (0)])] Q5 J3 rfl ?_
 refine cn 103 (((toU8 (Int.tmod (p_s.Kind.toNat:Int) (8))).toNat:Int) == 6) rfl h (fun hb h=>?_) fun hb h=>?_
 ·refine sg ?_
  obtain ⟨x9,hx9,h⟩:=bindS h
  refine ⟨_,rfl,_,rfl,?_⟩
  refine CallOk.call (w_ref07_Put hx9) (LeL.refl _) ?_
  refine ⟨_,rfl,?_⟩
  refine wT [(4,.b 4 0),(22,.b 22 0),(23,vi x9.2)] [(4,.box [.v (.slice none 0 0),vi (0),vi (0)]),(22,.box [.s (mI x9.1.Nodes),vi x9.1.Next,vi x9.1.Cookie])] Q3 J2 rfl ?_
  refine sg ?_
  refine ⟨_,rfl,_,rfl,?_⟩
  refine wT [(4,.b 4 0),(5,vi (0)),(6,vi x9.2)] [(4,.box [.s (mI x9.1.Nodes),vi x9.1.Next,vi x9.1.Cookie])] Q3 J1 rfl ?_
  refine rt ?_
  cases h
  exact ⟨_,rfl,(Fz.t (.cons (Fz.imm rfl) (.cons Fz.v (.cons Fz.v .nil))))⟩
 refine sk ?_
 refine sg ?_
 obtain ⟨x10,hx10,h⟩:=bindS h
 refine ⟨_,rfl,?_⟩
 refine CallOk.call (w_ref07N2 hx10) (LeL.refl _) ?_
 refine ⟨_,rfl,?_⟩
 refine wT [(4,.b 4 0),(24,.b 24 0),(25,vi x10.2)] [(4,.box [.v (.slice none 0 0),vi (0),vi (0)]),(24,.box [.s (mI x10.1.Nodes),vi x10.1.Next,vi x10.1.Cookie])] Q3 J2 rfl ?_
 refine sg ?_
 refine ⟨_,rfl,_,rfl,?_⟩
 refine wT [(4,.b 4 0),(5,vi (0)),(6,vi x10.2)] [(4,.box [.s (mI x10.1.Nodes),vi x10.1.Next,vi x10.1.Cookie])] Q3 J1 rfl ?_
 refine rt ?_
 cases h
 exact ⟨_,rfl,(Fz.t (.cons (Fz.imm rfl) (.cons Fz.v (.cons Fz.v .nil))))⟩
theorem w_ref07N5 {p_a} {p_b} {r} (h:ref07N4 p_a p_b=some r):Pure Tryz.prog 61 [(.s (mC p_a)),(.s (mC p_b))] (vb r):=by
 refine po Tryz.tok 26 Tryz.func61 (by kernel_rfl) rfl rfl rfl ?_
 unfold ref07N4 at h
 refine wE [(0,.s (mC p_a)),(1,.s (mC p_b))] Q2 ?_
 refine sg ?_
 refine wE [(0,.s (mC p_a)),(1,.s (mC p_b))] Q2 ?_
 refine sq ?_
 refine sg ?_
 refine ⟨_,List.length_map _,fun _=>⟨_,List.length_map _,fun _=>?_⟩⟩
 refine wE [(0,.s (mC p_a)),(1,.s (mC p_b)),(10,vb ((p_a.length:Int) != (p_b.length:Int)))] Q3 ?_
 refine cn 10 ((p_a.length:Int) != (p_b.length:Int)) rfl h (fun hb h=>?_) fun hb h=>?_
 ·refine sg ?_
  refine wE [(4,vb false)] Q1 ?_
  refine rt ?_
  cases h
  exact Fz.v
 refine sk ?_
 refine Ok.seqj (fun v1=>⟨Cat.tab [],[]⟩) (fun v1=>ref07N6 v1=some r) ?_ ?_
 ·refine sg ?_
  refine wE [(0,.s (mC p_a)),(1,.s (mC p_b)),(5,vi (0))] Q3 ?_
  refine bl ?_
  refine Ok.loop (fun (s1:Int)=>⟨Cat.tab [(0,.s (mC p_a)),(1,.s (mC p_b)),(5,vi s1)],[]⟩) (ref07N5 p_a p_b) (s0:=0) h (wt Q3 Q0 rfl) ?_
  intro s1 y1 hB1 hy1
  unfold ref07N5 at hB1
  refine sq ?_
  refine sg ?_
  refine ⟨_,List.length_map _,fun _=>?_⟩
  refine wE [(0,.s (mC p_a)),(1,.s (mC p_b)),(5,vi s1),(14,vb (decide (s1 < (p_a.length:Int))))] Q4 ?_
  refine cn 14 (decide (s1 < (p_a.length:Int))) rfl hB1 (fun hb hB1=>?_) fun hb hB1=>?_
  ·refine sk ?_
   refine sq ?_
   refine bl ?_
   refine sq ?_
   refine Ok.draw (m:=9) (MD:=⟨[]⟩) (CH:=⟨[]⟩) Tryz.tok Tryz.mixed (by kernel_rfl) ?_
   obtain ⟨x1,hx1,hB1⟩:=bindS hB1
   obtain ⟨x2,hx2,hB1⟩:=bindS hB1
   refine ⟨_,rfl,_,rfl,_,⟨_,idx_nat hx1,_,idx_row hx1,rfl⟩,_,⟨_,rfl,rfl⟩,_,rfl,_,rfl,_,⟨_,idx_nat hx2,_,idx_row hx2,rfl⟩,_,⟨_,rfl,rfl⟩,_,⟨[.one (.str),.one (.int .i64),.one (.int .i64)],by kernel_rfl,rfl⟩,Q0,?_⟩
   refine wE [(0,.s (mC p_a)),(1,.s (mC p_b)),(5,vi s1),(25,vb (!(x1.Name == x2.Name&&(x1.Ino == x2.Ino&&(x1.Cookie == x2.Cookie&&true)))))] Q4 ?_
   refine cn 25 (!(x1.Name == x2.Name&&(x1.Ino == x2.Ino&&(x1.Cookie == x2.Cookie&&true)))) rfl hB1 (fun hb hB1=>?_) fun hb hB1=>?_
   ·refine sg ?_
    refine wE [(4,vb false)] Q1 ?_
    refine rt ?_
    have hB1:=out_ret hB1 hy1
    cases hB1
    exact Fz.v
   refine sk ?_
   refine rg ?_
   obtain ⟨hc1,hB1⟩:=chk_some hB1
   refine (Or.inl ⟨hc1,?_⟩)
   exact ⟨_,sj hB1,wt Q3 Q0 rfl⟩
  refine xt ?_
  have hB1:=out_ret hB1 hy1
  exact ⟨_,hB1,wt Q0 Q0 rfl⟩
 intro v1 h
 unfold ref07N6 at h
 refine sg ?_
 refine wE [(4,vb true)] Q1 ?_
 refine rt ?_
 cases h
 exact Fz.v
theorem w_ref07N6 {p_a} {p_b} {r} (h:ref07N8 p_a p_b=some r):Pure Tryz.prog 26 [(.a [(vi p_a.Ino),(vi p_a.Kind),(vi p_a.Links),(.s (mD p_a.Data)),(.s (mC p_a.Ents)),(vi p_a.Up)]),(.a [(vi p_b.Ino),(vi p_b.Kind),(vi p_b.Links),(.s (mD p_b.Data)),(.s (mC p_b.Ents)),(vi p_b.Up)])] (vb r):=by
 refine po Tryz.tok 45 Tryz.func26 (by kernel_rfl) rfl rfl rfl ?_
 unfold ref07N8 at h
 refine wE [(0,.a [vi p_a.Ino,vi p_a.Kind,vi p_a.Links,.s (mD p_a.Data),.s (mC p_a.Ents),vi p_a.Up]),(1,.a [vi p_b.Ino,vi p_b.Kind,vi p_b.Links,.s (mD p_b.Data),.s (mC p_b.Ents),vi p_b.Up])] Q2 ?_
 refine sg ?_
 refine wT [(2,.b 2 0),(3,.b 3 0)] [(2,.box [vi p_a.Ino,vi p_a.Kind,vi p_a.Links,.s (mD p_a.Data),.s (mC p_a.Ents),vi p_a.Up]),(3,.box [vi p_b.Ino,vi p_b.Kind,vi p_b.Links,.s (mD p_b.Data),.s (mC p_b.Ents),vi p_b.Up])] Q2 J2 rfl ?_
 refine sq ?_
 obtain ⟨v1,hv1,h⟩:=bindS h
 refine Ok.seqw ⟨Cat.tab [(2,.b 2 0),(3,.b 3 0),(39,vb v1)],[(2,.box [vi p_a.Ino,vi p_a.Kind,vi p_a.Links,.s (mD p_a.Data),.s (mC p_a.Ents),vi p_a.Up]),(3,.box [vi p_b.Ino,vi p_b.Kind,vi p_b.Links,.s (mD p_b.Data),.s (mC p_b.Ents),vi p_b.Up])]⟩ ?_ ?_
 ·refine rg ?_
  refine ⟨_,rfl,_,rfl,?_⟩
  obtain ⟨c1,hg1,hv1⟩:=bindS hv1
  refine Br.itf hg1 (fun hb hg1=>?_) fun hb hg1=>?_
  ·cases hg1
   obtain ⟨c2,hg2,hv1⟩:=bindS hv1
   replace hg2:=iteT hg2
   cases hg2
   obtain ⟨c3,hg3,hv1⟩:=bindS hv1
   replace hg3:=iteT hg3
   cases hg3
   obtain ⟨c4,hg4,hv1⟩:=bindS hv1
   replace hg4:=iteT hg4
   cases hg4
   cases hv1
   exact wt Q3 J2 rfl
  refine ⟨_,rfl,_,rfl,?_⟩
  cases hg1
  obtain ⟨c2,hg5,hv1⟩:=bindS hv1
  refine Br.itf hg5 (fun hb hg5=>?_) fun hb hg5=>?_
  ·cases hg5
   obtain ⟨c3,hg6,hv1⟩:=bindS hv1
   replace hg6:=iteT hg6
   cases hg6
   obtain ⟨c4,hg7,hv1⟩:=bindS hv1
   replace hg7:=iteT hg7
   cases hg7
   cases hv1
   exact wt Q3 J2 rfl
  refine ⟨_,rfl,_,rfl,?_⟩
  cases hg5
  obtain ⟨c3,hg8,hv1⟩:=bindS hv1
  refine Br.itf hg8 (fun hb hg8=>?_) fun hb hg8=>?_
  ·cases hg8
   obtain ⟨c4,hg9,hv1⟩:=bindS hv1
   replace hg9:=iteT hg9
   cases hg9
   cases hv1
   exact wt Q3 J2 rfl
  refine ⟨_,rfl,_,rfl,?_⟩
  cases hg8
  obtain ⟨c4,hg10,hv1⟩:=bindS hv1
  refine Br.itf hg10 (fun hb hg10=>?_) fun hb hg10=>?_
  ·cases hg10
   cases hv1
   exact wt Q3 J2 rfl
  refine ⟨_,rfl,_,rfl,_,rfl,_,rfl,_,str_neq _ _,?_⟩
  cases hg10
  cases hv1
  exact wt Q3 J2 rfl
 refine cn 39 (v1) rfl h (fun hb h=>?_) fun hb h=>?_
 ·refine sg ?_
  refine wE [(4,vb false)] Q1 ?_
  refine rt ?_
  cases h
  exact Fz.v
 refine sk ?_
 refine sg ?_
 obtain ⟨x1,hx1,h⟩:=bindS h
 refine ⟨_,rfl,_,rfl,?_⟩
 refine CallOk.call (w_ref07N5 hx1) (LeL.refl _) ?_
 refine wE [(4,vb x1)] Q1 ?_
 refine rt ?_
 cases h
 exact Fz.v
theorem w_ref07N7 {p_a} {p_b} {r} (h:ref07N9 p_a p_b=some r):Pure Tryz.prog 17 [(.s (mI p_a)),(.s (mI p_b))] (vb r):=by
 refine po Tryz.tok 27 Tryz.func17 (by kernel_rfl) rfl rfl rfl ?_
 unfold ref07N9 at h
 refine wE [(0,.s (mI p_a)),(1,.s (mI p_b))] Q2 ?_
 refine sg ?_
 refine wE [(0,.s (mI p_a)),(1,.s (mI p_b))] Q2 ?_
 refine sq ?_
 refine sg ?_
 refine ⟨_,List.length_map _,fun _=>⟨_,List.length_map _,fun _=>?_⟩⟩
 refine wE [(0,.s (mI p_a)),(1,.s (mI p_b)),(10,vb ((p_a.length:Int) != (p_b.length:Int)))] Q3 ?_
 refine cn 10 ((p_a.length:Int) != (p_b.length:Int)) rfl h (fun hb h=>?_) fun hb h=>?_
 ·refine sg ?_
  refine wE [(4,vb false)] Q1 ?_
  refine rt ?_
  cases h
  exact Fz.v
 refine sk ?_
 refine Ok.seqj (fun v1=>⟨Cat.tab [],[]⟩) (fun v1=>ref07N11 v1=some r) ?_ ?_
 ·refine sg ?_
  refine wE [(0,.s (mI p_a)),(1,.s (mI p_b)),(5,vi (0))] Q3 ?_
  refine bl ?_
  refine Ok.loop (fun (s1:Int)=>⟨Cat.tab [(0,.s (mI p_a)),(1,.s (mI p_b)),(5,vi s1)],[]⟩) (ref07N10 p_a p_b) (s0:=0) h (wt Q3 Q0 rfl) ?_
  intro s1 y1 hB1 hy1
  unfold ref07N10 at hB1
  refine sq ?_
  refine sg ?_
  refine ⟨_,List.length_map _,fun _=>?_⟩
  refine wE [(0,.s (mI p_a)),(1,.s (mI p_b)),(5,vi s1),(14,vb (decide (s1 < (p_a.length:Int))))] Q4 ?_
  refine cn 14 (decide (s1 < (p_a.length:Int))) rfl hB1 (fun hb hB1=>?_) fun hb hB1=>?_
  ·refine sk ?_
   refine sq ?_
   refine bl ?_
   refine sq ?_
   refine Ok.draw (m:=10) (MD:=⟨[]⟩) (CH:=⟨[]⟩) Tryz.tok Tryz.mixed (by kernel_rfl) ?_
   obtain ⟨x1,hx1,hB1⟩:=bindS hB1
   obtain ⟨x2,hx2,hB1⟩:=bindS hB1
   obtain ⟨x3,hx3,hB1⟩:=bindS hB1
   refine ⟨_,rfl,_,rfl,_,⟨_,idx_nat hx1,_,idx_row hx1,rfl⟩,_,⟨_,rfl,rfl⟩,_,rfl,_,rfl,_,⟨_,idx_nat hx2,_,idx_row hx2,rfl⟩,_,⟨_,rfl,rfl⟩,_,⟨_,.of_pure (w_ref07N6 hx3) (LeL.refl _),rfl⟩,_,rfl,Q0,?_⟩
   refine wE [(0,.s (mI p_a)),(1,.s (mI p_b)),(5,vi s1),(26,vb (!x3))] Q4 ?_
   refine cn 26 (!x3) rfl hB1 (fun hb hB1=>?_) fun hb hB1=>?_
   ·refine sg ?_
    refine wE [(4,vb false)] Q1 ?_
    refine rt ?_
    have hB1:=out_ret hB1 hy1
    cases hB1
    exact Fz.v
   refine sk ?_
   refine rg ?_
   obtain ⟨hc1,hB1⟩:=chk_some hB1
   refine (Or.inl ⟨hc1,?_⟩)
   exact ⟨_,sj hB1,wt Q3 Q0 rfl⟩
  refine xt ?_
  have hB1:=out_ret hB1 hy1
  exact ⟨_,hB1,wt Q0 Q0 rfl⟩
 intro v1 h
 unfold ref07N11 at h
 refine sg ?_
 refine wE [(4,vb true)] Q1 ?_
 refine rt ?_
 cases h
 exact Fz.v
theorem w_ref07N4 {p_a} {p_b} {r} (h:ref07_Same p_a p_b=some r):Pure Tryz.prog 25 [(.a [(.s (mI p_a.Nodes)),(vi p_a.Next),(vi p_a.Cookie)]),(.a [(.s (mI p_b.Nodes)),(vi p_b.Next),(vi p_b.Cookie)])] (vb r):=by
 refine po Tryz.tok 24 Tryz.func25 (by kernel_rfl) rfl rfl rfl ?_
 unfold ref07_Same at h
 refine wE [(0,.a [.s (mI p_a.Nodes),vi p_a.Next,vi p_a.Cookie]),(1,.a [.s (mI p_b.Nodes),vi p_b.Next,vi p_b.Cookie])] Q2 ?_
 refine sg ?_
 refine wT [(2,.b 2 0),(3,.b 3 0)] [(2,.box [.s (mI p_a.Nodes),vi p_a.Next,vi p_a.Cookie]),(3,.box [.s (mI p_b.Nodes),vi p_b.Next,vi p_b.Cookie])] Q2 J2 rfl ?_
 obtain ⟨v1,hv1,h⟩:=bindS h
 refine Ok.seqw ⟨Cat.tab [(4,vb v1)],[]⟩ ?_ ?_
 ·refine rg ?_
  refine ⟨_,rfl,_,rfl,?_⟩
  obtain ⟨c1,hg1,hv1⟩:=bindS hv1
  refine Br.ite hg1 (fun hb hg1=>?_) fun hb hg1=>?_
  ·refine ⟨_,rfl,_,rfl,?_⟩
   cases hg1
   obtain ⟨c2,hg2,hv1⟩:=bindS hv1
   refine Br.ite hg2 (fun hb hg2=>?_) fun hb hg2=>?_
   ·obtain ⟨x1,hx1,hg2⟩:=bindS hg2
    refine ⟨_,rfl,_,rfl,?_⟩
    refine CallOk.call (w_ref07N7 hx1) (LeL.refl _) ?_
    cases hg2
    cases hv1
    exact wt Q1 Q0 rfl
   cases hg2
   cases hv1
   exact wt Q1 Q0 rfl
  cases hg1
  obtain ⟨c2,hg3,hv1⟩:=bindS hv1
  replace hg3:=iteF hg3
  cases hg3
  cases hv1
  exact wt Q1 Q0 rfl
 refine rt ?_
 cases h
 exact Fz.v
set_option maxHeartbeats 4000000 in
theorem w_ref10_Put {p_s} {p_t} {r} (h:ref10_Put p_s p_t=some r):Pure Tryz.prog 67 [(.a [(.s (mI p_s.Now.Nodes)),(vi p_s.Now.Next),(vi p_s.Now.Cookie),(vi p_s.Tick),(.s (mB p_s.Since)),(.s (mA p_s.Pasts)),(.s (mU p_s.Taken)),(vi p_s.Next)]),(.a [(.s (mI p_t.Nodes)),(vi p_t.Next),(vi p_t.Cookie)])] (.a [(.s (mI r.Now.Nodes)),(vi r.Now.Next),(vi r.Now.Cookie),(vi r.Tick),(.s (mB r.Since)),(.s (mA r.Pasts)),(.s (mU r.Taken)),(vi r.Next)]):=by
 refine po Tryz.tok 121 Tryz.func67 (by kernel_rfl) rfl rfl rfl ?_
 unfold ref10_Put at h
 refine wE [(0,.a [.s (mI p_s.Now.Nodes),vi p_s.Now.Next,vi p_s.Now.Cookie,vi p_s.Tick,.s (mB p_s.Since),.s (mA p_s.Pasts),.s (mU p_s.Taken),vi p_s.Next]),(1,.a [.s (mI p_t.Nodes),vi p_t.Next,vi p_t.Cookie])] Q2 ?_
 refine sg ?_
 refine wT [(2,.b 2 0),(3,.b 3 0),(4,.b 4 0)] [(2,.box [.s (mI p_s.Now.Nodes),vi p_s.Now.Next,vi p_s.Now.Cookie,vi p_s.Tick,.s (mB p_s.Since),.s (mA p_s.Pasts),.s (mU p_s.Taken),vi p_s.Next]),(3,.box [.s (mI p_t.Nodes),vi p_t.Next,vi p_t.Cookie]),(4,.box [.v (.slice none 0 0),vi (0),vi (0),vi (0),.v (.slice none 0 0),.v (.slice none 0 0),.v (.slice none 0 0),vi (0)])] Q3 J3 rfl ?_
 refine sq ?_
 refine sg ?_
 obtain ⟨x1,hx1,h⟩:=bindS h
 refine ⟨_,rfl,_,rfl,?_⟩
 refine CallOk.call (w_ref07N4 hx1) (LeL.refl _) ?_
 refine wT [(2,.b 2 0),(3,.b 3 0),(4,.b 4 0),(18,vb x1)] [(2,.box [.s (mI p_s.Now.Nodes),vi p_s.Now.Next,vi p_s.Now.Cookie,vi p_s.Tick,.s (mB p_s.Since),.s (mA p_s.Pasts),.s (mU p_s.Taken),vi p_s.Next]),(3,.box [.s (mI p_t.Nodes),vi p_t.Next,vi p_t.Cookie]),(4,.box [.v (.slice none 0 0),vi (0),vi (0),vi (0),.v (.slice none 0 0),.v (.slice none 0 0),.v (.slice none 0 0),vi (0)])] Q4 J3 rfl ?_
 refine cn 18 (x1) rfl h (fun hb h=>?_) fun hb h=>?_
 ·refine sg ?_
  refine ⟨_,rfl,_,rfl,?_⟩
  refine wT [(4,.b 4 0)] [(4,.box [.s (mI p_s.Now.Nodes),vi p_s.Now.Next,vi p_s.Now.Cookie,vi p_s.Tick,.s (mB p_s.Since),.s (mA p_s.Pasts),.s (mU p_s.Taken),vi p_s.Next])] Q1 J1 rfl ?_
  refine rt ?_
  cases h
  exact ⟨_,rfl,(Fz.imm rfl)⟩
 refine sk ?_
 refine sg ?_
 obtain ⟨hc1,h⟩:=chk_some h
 refine ⟨_,rfl,(Or.inl ⟨hc1,?_⟩)⟩
 refine wT [(2,.b 2 0),(3,.b 3 0),(4,.b 4 0),(5,vi (p_s.Tick+1))] [(2,.box [.s (mI p_s.Now.Nodes),vi p_s.Now.Next,vi p_s.Now.Cookie,vi p_s.Tick,.s (mB p_s.Since),.s (mA p_s.Pasts),.s (mU p_s.Taken),vi p_s.Next]),(3,.box [.s (mI p_t.Nodes),vi p_t.Next,vi p_t.Cookie]),(4,.box [.v (.slice none 0 0),vi (0),vi (0),vi (0),.v (.slice none 0 0),.v (.slice none 0 0),.v (.slice none 0 0),vi (0)])] Q4 J3 rfl ?_
 refine sg ?_
 obtain ⟨hc2,h⟩:=chk_some h
 refine Or.inr ⟨_,rfl,rowsLen_map (f:=c_api_Past) (n:=8) (fun _=>rfl) p_s.Pasts,app_b2 (f:=c_api_Past) (l:=([]:List api_Past)) (l':=p_s.Pasts) hc2,_,(List.map_append (f:=c_api_Past) (l₁:=([]:List api_Past)) (l₂:=p_s.Pasts)).symm,?_⟩
 refine wT [(2,.b 2 0),(3,.b 3 0),(4,.b 4 0),(5,vi (p_s.Tick+1)),(6,.o 23)] [(2,.box [.s (mI p_s.Now.Nodes),vi p_s.Now.Next,vi p_s.Now.Cookie,vi p_s.Tick,.s (mB p_s.Since),.s (mA p_s.Pasts),.s (mU p_s.Taken),vi p_s.Next]),(3,.box [.s (mI p_t.Nodes),vi p_t.Next,vi p_t.Cookie]),(4,.box [.v (.slice none 0 0),vi (0),vi (0),vi (0),.v (.slice none 0 0),.v (.slice none 0 0),.v (.slice none 0 0),vi (0)]),(23,.own 75 8 (mA (([]:List api_Past)++p_s.Pasts)))] Q5 J4 rfl ?_
 obtain ⟨v1,hv1,h⟩:=bindS h
 refine Ok.seqw ⟨Cat.tab [(2,.b 2 0),(3,.b 3 0),(4,.b 4 0),(5,vi (p_s.Tick+1)),(6,.o 23)],[(2,.box [.s (mI p_s.Now.Nodes),vi p_s.Now.Next,vi p_s.Now.Cookie,vi p_s.Tick,.s (mB p_s.Since),.s (mA p_s.Pasts),.s (mU p_s.Taken),vi p_s.Next]),(3,.box [.s (mI p_t.Nodes),vi p_t.Next,vi p_t.Cookie]),(4,.box [.v (.slice none 0 0),vi (0),vi (0),vi (0),.v (.slice none 0 0),.v (.slice none 0 0),.v (.slice none 0 0),vi (0)]),(23,.own 75 8 (mA v1))]⟩ ?_ ?_
 ·refine sg ?_
  refine wT [(2,.b 2 0),(3,.b 3 0),(4,.b 4 0),(5,vi (p_s.Tick+1)),(6,.o 23),(7,vi (0))] [(2,.box [.s (mI p_s.Now.Nodes),vi p_s.Now.Next,vi p_s.Now.Cookie,vi p_s.Tick,.s (mB p_s.Since),.s (mA p_s.Pasts),.s (mU p_s.Taken),vi p_s.Next]),(3,.box [.s (mI p_t.Nodes),vi p_t.Next,vi p_t.Cookie]),(4,.box [.v (.slice none 0 0),vi (0),vi (0),vi (0),.v (.slice none 0 0),.v (.slice none 0 0),.v (.slice none 0 0),vi (0)]),(23,.own 75 8 (mA (([]:List api_Past)++p_s.Pasts)))] Q6 J4 rfl ?_
  refine bl ?_
  refine Ok.loop (fun (s1:Int×(List api_Past))=>⟨Cat.tab [(2,.b 2 0),(3,.b 3 0),(4,.b 4 0),(5,vi (p_s.Tick+1)),(6,.o 23),(7,vi s1.1)],[(2,.box [.s (mI p_s.Now.Nodes),vi p_s.Now.Next,vi p_s.Now.Cookie,vi p_s.Tick,.s (mB p_s.Since),.s (mA p_s.Pasts),.s (mU p_s.Taken),vi p_s.Next]),(3,.box [.s (mI p_t.Nodes),vi p_t.Next,vi p_t.Cookie]),(4,.box [.v (.slice none 0 0),vi (0),vi (0),vi (0),.v (.slice none 0 0),.v (.slice none 0 0),.v (.slice none 0 0),vi (0)]),(23,.own 75 8 (mA s1.2))]⟩) (ref10N5 p_s p_t) (s0:=(0,([]:List api_Past)++p_s.Pasts)) hv1 (wt Q6 ⟨⟨_,rfl,.refl _⟩,⟨_,rfl,.refl _⟩,⟨_,rfl,.refl _⟩,⟨_,rfl,.refl _⟩,Q0⟩ rfl) ?_
  intro s1 y1 hB1 hy1
  unfold ref10N5 at hB1
  refine sq ?_
  refine sg ?_
  refine ⟨_,rfl,_,List.length_map _,fun _=>?_⟩
  refine wT [(2,.b 2 0),(3,.b 3 0),(4,.b 4 0),(5,vi (p_s.Tick+1)),(6,.o 23),(7,vi s1.1),(32,vb (decide (s1.1 < (p_s.Now.Nodes.length:Int))))] [(2,.box [.s (mI p_s.Now.Nodes),vi p_s.Now.Next,vi p_s.Now.Cookie,vi p_s.Tick,.s (mB p_s.Since),.s (mA p_s.Pasts),.s (mU p_s.Taken),vi p_s.Next]),(3,.box [.s (mI p_t.Nodes),vi p_t.Next,vi p_t.Cookie]),(4,.box [.v (.slice none 0 0),vi (0),vi (0),vi (0),.v (.slice none 0 0),.v (.slice none 0 0),.v (.slice none 0 0),vi (0)]),(23,.own 75 8 (mA s1.2))] Q7 J4 rfl ?_
  refine cn 32 (decide (s1.1 < (p_s.Now.Nodes.length:Int))) rfl hB1 (fun hb hB1=>?_) fun hb hB1=>?_
  ·refine sk ?_
   obtain ⟨v2,hv2,hB1⟩:=bindS hB1
   refine Ok.seqw ⟨Cat.tab [(2,.b 2 0),(3,.b 3 0),(4,.b 4 0),(5,vi (p_s.Tick+1)),(6,.o 23),(7,vi s1.1)],[(2,.box [.s (mI p_s.Now.Nodes),vi p_s.Now.Next,vi p_s.Now.Cookie,vi p_s.Tick,.s (mB p_s.Since),.s (mA p_s.Pasts),.s (mU p_s.Taken),vi p_s.Next]),(3,.box [.s (mI p_t.Nodes),vi p_t.Next,vi p_t.Cookie]),(4,.box [.v (.slice none 0 0),vi (0),vi (0),vi (0),.v (.slice none 0 0),.v (.slice none 0 0),.v (.slice none 0 0),vi (0)]),(23,.own 75 8 (mA v2))]⟩ ?_ ?_
   ·refine bl ?_
    refine sg ?_
    obtain ⟨x2,hx2,hv2⟩:=bindS hv2
    refine ⟨_,rfl,_,idx_nat hx2,_,idx_row hx2,_,rfl,_,rfl,?_⟩
    refine wT [(2,.b 2 0),(3,.b 3 0),(4,.b 4 0),(5,vi (p_s.Tick+1)),(6,.o 23),(7,vi s1.1),(8,.b 8 0)] [(2,.box [.s (mI p_s.Now.Nodes),vi p_s.Now.Next,vi p_s.Now.Cookie,vi p_s.Tick,.s (mB p_s.Since),.s (mA p_s.Pasts),.s (mU p_s.Taken),vi p_s.Next]),(3,.box [.s (mI p_t.Nodes),vi p_t.Next,vi p_t.Cookie]),(4,.box [.v (.slice none 0 0),vi (0),vi (0),vi (0),.v (.slice none 0 0),.v (.slice none 0 0),.v (.slice none 0 0),vi (0)]),(23,.own 75 8 (mA s1.2)),(8,.box [vi x2.Ino,vi x2.Kind,vi x2.Links,.s (mD x2.Data),.s (mC x2.Ents),vi x2.Up])] Q7 ⟨hr,J4⟩ rfl ?_
    refine sg ?_
    obtain ⟨x3,hx3,hv2⟩:=bindS hv2
    refine ⟨_,rfl,_,rfl,?_⟩
    refine CallOk.call (w_ref07_Get hx3) (LeL.refl _) ?_
    refine ⟨_,rfl,?_⟩
    refine wT [(2,.b 2 0),(3,.b 3 0),(4,.b 4 0),(5,vi (p_s.Tick+1)),(6,.o 23),(7,vi s1.1),(8,.b 8 0),(9,.b 9 0),(10,vb x3.2)] [(2,.box [.s (mI p_s.Now.Nodes),vi p_s.Now.Next,vi p_s.Now.Cookie,vi p_s.Tick,.s (mB p_s.Since),.s (mA p_s.Pasts),.s (mU p_s.Taken),vi p_s.Next]),(3,.box [.s (mI p_t.Nodes),vi p_t.Next,vi p_t.Cookie]),(4,.box [.v (.slice none 0 0),vi (0),vi (0),vi (0),.v (.slice none 0 0),.v (.slice none 0 0),.v (.slice none 0 0),vi (0)]),(23,.own 75 8 (mA s1.2)),(8,.box [vi x2.Ino,vi x2.Kind,vi x2.Links,.s (mD x2.Data),.s (mC x2.Ents),vi x2.Up]),(9,.box [vi x3.1.Ino,vi x3.1.Kind,vi x3.1.Links,.s (mD x3.1.Data),.s (mC x3.1.Ents),vi x3.1.Up])] ⟨lr,Q8⟩ ⟨hr,hr,J4⟩ rfl ?_
    refine sq ?_
    obtain ⟨v3,hv3,hv2⟩:=bindS hv2
    refine Ok.seqw ⟨Cat.tab [(2,.b 2 0),(3,.b 3 0),(4,.b 4 0),(5,vi (p_s.Tick+1)),(6,.o 23),(7,vi s1.1),(8,.b 8 0),(53,vb v3)],[(2,.box [.s (mI p_s.Now.Nodes),vi p_s.Now.Next,vi p_s.Now.Cookie,vi p_s.Tick,.s (mB p_s.Since),.s (mA p_s.Pasts),.s (mU p_s.Taken),vi p_s.Next]),(3,.box [.s (mI p_t.Nodes),vi p_t.Next,vi p_t.Cookie]),(4,.box [.v (.slice none 0 0),vi (0),vi (0),vi (0),.v (.slice none 0 0),.v (.slice none 0 0),.v (.slice none 0 0),vi (0)]),(23,.own 75 8 (mA s1.2)),(8,.box [vi x2.Ino,vi x2.Kind,vi x2.Links,.s (mD x2.Data),.s (mC x2.Ents),vi x2.Up])]⟩ ?_ ?_
    ·refine rg ?_
     obtain ⟨c1,hg1,hv3⟩:=bindS hv3
     refine Br.ite hg1 (fun hb hg1=>?_) fun hb hg1=>?_
     ·obtain ⟨x4,hx4,hg1⟩:=bindS hg1
      refine ⟨_,rfl,_,rfl,?_⟩
      refine CallOk.call (w_ref07N6 hx4) (LeL.refl _) ?_
      cases hg1
      cases hv3
      exact wt Q8 ⟨hr,J4⟩ rfl
     cases hg1
     cases hv3
     exact wt Q8 ⟨hr,J4⟩ rfl
    refine cn 53 (v3) rfl hv2 (fun hb hv2=>?_) fun hb hv2=>?_
    ·refine xt ?_
     cases hv2
     exact wt Q6 J4 rfl
    refine sk ?_
    refine sq ?_
    refine Ok.draw (m:=9) (MD:=⟨[]⟩) (CH:=⟨[]⟩) Tryz.tok Tryz.mixed (by kernel_rfl) ?_
    obtain ⟨x5,hx5,hv2⟩:=bindS hv2
    obtain ⟨x6,hx6,hv2⟩:=bindS hv2
    refine ⟨_,rfl,_,⟨_,rfl,rfl⟩,_,rfl,_,⟨_,rfl,rfl⟩,_,rfl,_,⟨_,idx_nat hx5,_,idx_row hx5,rfl⟩,_,⟨_,rfl,rfl⟩,_,rfl,_,⟨_,.of_pure (w_ref10N4 hx6) (LeL.refl _),rfl⟩,Q0,?_⟩
    refine wT [(2,.b 2 0),(3,.b 3 0),(4,.b 4 0),(5,vi (p_s.Tick+1)),(6,.o 23),(7,vi s1.1),(8,.b 8 0),(62,vb x6)] [(2,.box [.s (mI p_s.Now.Nodes),vi p_s.Now.Next,vi p_s.Now.Cookie,vi p_s.Tick,.s (mB p_s.Since),.s (mA p_s.Pasts),.s (mU p_s.Taken),vi p_s.Next]),(3,.box [.s (mI p_t.Nodes),vi p_t.Next,vi p_t.Cookie]),(4,.box [.v (.slice none 0 0),vi (0),vi (0),vi (0),.v (.slice none 0 0),.v (.slice none 0 0),.v (.slice none 0 0),vi (0)]),(23,.own 75 8 (mA s1.2)),(8,.box [vi x2.Ino,vi x2.Kind,vi x2.Links,.s (mD x2.Data),.s (mC x2.Ents),vi x2.Up])] Q8 ⟨hr,J4⟩ rfl ?_
    refine cn 62 (x6) rfl hv2 (fun hb hv2=>?_) fun hb hv2=>?_
    ·refine Ok.draw (m:=10) (MD:=⟨[]⟩) (CH:=⟨[]⟩) Tryz.tok Tryz.mixed (by kernel_rfl) ?_
     obtain ⟨x7,hx7,hv2⟩:=bindS hv2
     obtain ⟨hc3,hv2⟩:=chk_some hv2
     refine ⟨_,rfl,_,rfl,_,⟨_,rfl,rfl⟩,_,rfl,_,⟨_,idx_nat hx7,_,idx_row hx7,rfl⟩,_,⟨_,rfl,rfl⟩,_,rfl,_,⟨_,rfl,rfl⟩,_,rfl,_,rfl,Q0,rowsLen_map (f:=c_api_Past) (n:=8) (fun _=>rfl) ([(⟨x7,p_s.Tick+1,x2⟩:api_Past)]),app_b2 (f:=c_api_Past) (l:=s1.2) (l':=[(⟨x7,p_s.Tick+1,x2⟩:api_Past)]) hc3,_,(List.map_append (f:=c_api_Past) (l₁:=s1.2) (l₂:=[(⟨x7,p_s.Tick+1,x2⟩:api_Past)])).symm,?_⟩
     cases hv2
     exact wt Q6 J4 rfl
    refine sk ?_
    cases hv2
    exact wt Q6 J4 rfl
   refine rg ?_
   obtain ⟨hc4,hB1⟩:=chk_some hB1
   refine (Or.inl ⟨hc4,?_⟩)
   exact ⟨_,sj hB1,wt Q6 J4 rfl⟩
  refine xt ?_
  have hB1:=out_ret hB1 hy1
  cases hB1
  exact wt Q5 J4 rfl
 refine sg ?_
 refine Or.inr ?_
 refine wT [(2,.b 2 0),(3,.b 3 0),(4,.b 4 0),(5,vi (p_s.Tick+1)),(6,.o 23),(11,.o 74)] [(2,.box [.s (mI p_s.Now.Nodes),vi p_s.Now.Next,vi p_s.Now.Cookie,vi p_s.Tick,.s (mB p_s.Since),.s (mA p_s.Pasts),.s (mU p_s.Taken),vi p_s.Next]),(3,.box [.s (mI p_t.Nodes),vi p_t.Next,vi p_t.Cookie]),(4,.box [.v (.slice none 0 0),vi (0),vi (0),vi (0),.v (.slice none 0 0),.v (.slice none 0 0),.v (.slice none 0 0),vi (0)]),(23,.own 75 8 (mA v1)),(74,.own 3 1 (mB ([]:List Int)))] Q6 ⟨hr,J4⟩ rfl ?_
 obtain ⟨v4,hv4,h⟩:=bindS h
 refine Ok.seqw ⟨Cat.tab [(2,.b 2 0),(3,.b 3 0),(4,.b 4 0),(5,vi (p_s.Tick+1)),(6,.o 23),(11,.o 74)],[(2,.box [.s (mI p_s.Now.Nodes),vi p_s.Now.Next,vi p_s.Now.Cookie,vi p_s.Tick,.s (mB p_s.Since),.s (mA p_s.Pasts),.s (mU p_s.Taken),vi p_s.Next]),(3,.box [.s (mI p_t.Nodes),vi p_t.Next,vi p_t.Cookie]),(4,.box [.v (.slice none 0 0),vi (0),vi (0),vi (0),.v (.slice none 0 0),.v (.slice none 0 0),.v (.slice none 0 0),vi (0)]),(23,.own 75 8 (mA v1)),(74,.own 3 1 (mB v4))]⟩ ?_ ?_
 ·refine sg ?_
  refine wT [(2,.b 2 0),(3,.b 3 0),(4,.b 4 0),(5,vi (p_s.Tick+1)),(6,.o 23),(11,.o 74),(12,vi (0))] [(2,.box [.s (mI p_s.Now.Nodes),vi p_s.Now.Next,vi p_s.Now.Cookie,vi p_s.Tick,.s (mB p_s.Since),.s (mA p_s.Pasts),.s (mU p_s.Taken),vi p_s.Next]),(3,.box [.s (mI p_t.Nodes),vi p_t.Next,vi p_t.Cookie]),(4,.box [.v (.slice none 0 0),vi (0),vi (0),vi (0),.v (.slice none 0 0),.v (.slice none 0 0),.v (.slice none 0 0),vi (0)]),(23,.own 75 8 (mA v1)),(74,.own 3 1 (mB ([]:List Int)))] Q7 ⟨hr,J4⟩ rfl ?_
  refine bl ?_
  refine Ok.loop (fun (s2:Int×(List Int))=>⟨Cat.tab [(2,.b 2 0),(3,.b 3 0),(4,.b 4 0),(5,vi (p_s.Tick+1)),(6,.o 23),(11,.o 74),(12,vi s2.1)],[(2,.box [.s (mI p_s.Now.Nodes),vi p_s.Now.Next,vi p_s.Now.Cookie,vi p_s.Tick,.s (mB p_s.Since),.s (mA p_s.Pasts),.s (mU p_s.Taken),vi p_s.Next]),(3,.box [.s (mI p_t.Nodes),vi p_t.Next,vi p_t.Cookie]),(4,.box [.v (.slice none 0 0),vi (0),vi (0),vi (0),.v (.slice none 0 0),.v (.slice none 0 0),.v (.slice none 0 0),vi (0)]),(23,.own 75 8 (mA v1)),(74,.own 3 1 (mB s2.2))]⟩) (ref10N6 p_t p_s) (s0:=(0,([]:List Int))) hv4 (wt Q7 ⟨⟨_,rfl,.refl _⟩,⟨_,rfl,.refl _⟩,⟨_,rfl,.refl _⟩,⟨_,rfl,.refl _⟩,⟨_,rfl,.refl _⟩,Q0⟩ rfl) ?_
  intro s2 y2 hB2 hy2
  unfold ref10N6 at hB2
  refine sq ?_
  refine sg ?_
  refine ⟨_,rfl,_,List.length_map _,fun _=>?_⟩
  refine wT [(2,.b 2 0),(3,.b 3 0),(4,.b 4 0),(5,vi (p_s.Tick+1)),(6,.o 23),(11,.o 74),(12,vi s2.1),(79,vb (decide (s2.1 < (p_t.Nodes.length:Int))))] [(2,.box [.s (mI p_s.Now.Nodes),vi p_s.Now.Next,vi p_s.Now.Cookie,vi p_s.Tick,.s (mB p_s.Since),.s (mA p_s.Pasts),.s (mU p_s.Taken),vi p_s.Next]),(3,.box [.s (mI p_t.Nodes),vi p_t.Next,vi p_t.Cookie]),(4,.box [.v (.slice none 0 0),vi (0),vi (0),vi (0),.v (.slice none 0 0),.v (.slice none 0 0),.v (.slice none 0 0),vi (0)]),(23,.own 75 8 (mA v1)),(74,.own 3 1 (mB s2.2))] Q8 ⟨hr,J4⟩ rfl ?_
  refine cn 79 (decide (s2.1 < (p_t.Nodes.length:Int))) rfl hB2 (fun hb hB2=>?_) fun hb hB2=>?_
  ·refine sk ?_
   obtain ⟨v5,hv5,hB2⟩:=bindS hB2
   refine Ok.seqw ⟨Cat.tab [(2,.b 2 0),(3,.b 3 0),(4,.b 4 0),(5,vi (p_s.Tick+1)),(6,.o 23),(11,.o 74),(12,vi s2.1)],[(2,.box [.s (mI p_s.Now.Nodes),vi p_s.Now.Next,vi p_s.Now.Cookie,vi p_s.Tick,.s (mB p_s.Since),.s (mA p_s.Pasts),.s (mU p_s.Taken),vi p_s.Next]),(3,.box [.s (mI p_t.Nodes),vi p_t.Next,vi p_t.Cookie]),(4,.box [.v (.slice none 0 0),vi (0),vi (0),vi (0),.v (.slice none 0 0),.v (.slice none 0 0),.v (.slice none 0 0),vi (0)]),(23,.own 75 8 (mA v1)),(74,.own 3 1 (mB v5))]⟩ ?_ ?_
   ·refine bl ?_
    refine sg ?_
    refine wT [(2,.b 2 0),(3,.b 3 0),(4,.b 4 0),(5,vi (p_s.Tick+1)),(6,.o 23),(11,.o 74),(12,vi s2.1),(13,vi (p_s.Tick+1))] [(2,.box [.s (mI p_s.Now.Nodes),vi p_s.Now.Next,vi p_s.Now.Cookie,vi p_s.Tick,.s (mB p_s.Since),.s (mA p_s.Pasts),.s (mU p_s.Taken),vi p_s.Next]),(3,.box [.s (mI p_t.Nodes),vi p_t.Next,vi p_t.Cookie]),(4,.box [.v (.slice none 0 0),vi (0),vi (0),vi (0),.v (.slice none 0 0),.v (.slice none 0 0),.v (.slice none 0 0),vi (0)]),(23,.own 75 8 (mA v1)),(74,.own 3 1 (mB s2.2))] Q8 ⟨hr,J4⟩ rfl ?_
    obtain ⟨v6,hv6,hv5⟩:=bindS hv5
    refine Ok.seqw ⟨Cat.tab [(2,.b 2 0),(3,.b 3 0),(4,.b 4 0),(5,vi (p_s.Tick+1)),(6,.o 23),(11,.o 74),(12,vi s2.1),(13,vi v6)],[(2,.box [.s (mI p_s.Now.Nodes),vi p_s.Now.Next,vi p_s.Now.Cookie,vi p_s.Tick,.s (mB p_s.Since),.s (mA p_s.Pasts),.s (mU p_s.Taken),vi p_s.Next]),(3,.box [.s (mI p_t.Nodes),vi p_t.Next,vi p_t.Cookie]),(4,.box [.v (.slice none 0 0),vi (0),vi (0),vi (0),.v (.slice none 0 0),.v (.slice none 0 0),.v (.slice none 0 0),vi (0)]),(23,.own 75 8 (mA v1)),(74,.own 3 1 (mB s2.2))]⟩ ?_ ?_
    ·refine sg ?_
     refine wT [(2,.b 2 0),(3,.b 3 0),(4,.b 4 0),(5,vi (p_s.Tick+1)),(6,.o 23),(11,.o 74),(12,vi s2.1),(13,vi (p_s.Tick+1)),(14,vi (0))] [(2,.box [.s (mI p_s.Now.Nodes),vi p_s.Now.Next,vi p_s.Now.Cookie,vi p_s.Tick,.s (mB p_s.Since),.s (mA p_s.Pasts),.s (mU p_s.Taken),vi p_s.Next]),(3,.box [.s (mI p_t.Nodes),vi p_t.Next,vi p_t.Cookie]),(4,.box [.v (.slice none 0 0),vi (0),vi (0),vi (0),.v (.slice none 0 0),.v (.slice none 0 0),.v (.slice none 0 0),vi (0)]),(23,.own 75 8 (mA v1)),(74,.own 3 1 (mB s2.2))] ⟨lr,Q8⟩ ⟨hr,J4⟩ rfl ?_
     refine bl ?_
     refine Ok.loop (fun (s3:Int×Int)=>⟨Cat.tab [(2,.b 2 0),(3,.b 3 0),(4,.b 4 0),(5,vi (p_s.Tick+1)),(6,.o 23),(11,.o 74),(12,vi s2.1),(13,vi s3.1),(14,vi s3.2)],[(2,.box [.s (mI p_s.Now.Nodes),vi p_s.Now.Next,vi p_s.Now.Cookie,vi p_s.Tick,.s (mB p_s.Since),.s (mA p_s.Pasts),.s (mU p_s.Taken),vi p_s.Next]),(3,.box [.s (mI p_t.Nodes),vi p_t.Next,vi p_t.Cookie]),(4,.box [.v (.slice none 0 0),vi (0),vi (0),vi (0),.v (.slice none 0 0),.v (.slice none 0 0),.v (.slice none 0 0),vi (0)]),(23,.own 75 8 (mA v1)),(74,.own 3 1 (mB s2.2))]⟩) (ref10N7 p_s p_t s2) (s0:=((p_s.Tick+1),0)) hv6 (wt ⟨lr,Q8⟩ ⟨⟨_,rfl,.refl _⟩,⟨_,rfl,.refl _⟩,⟨_,rfl,.refl _⟩,⟨_,rfl,.refl _⟩,⟨_,rfl,.refl _⟩,Q0⟩ rfl) ?_
     intro s3 y3 hB3 hy3
     unfold ref10N7 at hB3
     refine sq ?_
     refine sg ?_
     refine ⟨_,rfl,_,List.length_map _,fun _=>?_⟩
     refine wT [(2,.b 2 0),(3,.b 3 0),(4,.b 4 0),(5,vi (p_s.Tick+1)),(6,.o 23),(11,.o 74),(12,vi s2.1),(13,vi s3.1),(14,vi s3.2),(88,vb (decide (s3.2 < (p_s.Now.Nodes.length:Int))))] [(2,.box [.s (mI p_s.Now.Nodes),vi p_s.Now.Next,vi p_s.Now.Cookie,vi p_s.Tick,.s (mB p_s.Since),.s (mA p_s.Pasts),.s (mU p_s.Taken),vi p_s.Next]),(3,.box [.s (mI p_t.Nodes),vi p_t.Next,vi p_t.Cookie]),(4,.box [.v (.slice none 0 0),vi (0),vi (0),vi (0),.v (.slice none 0 0),.v (.slice none 0 0),.v (.slice none 0 0),vi (0)]),(23,.own 75 8 (mA v1)),(74,.own 3 1 (mB s2.2))] ⟨lr,lr,Q8⟩ ⟨hr,J4⟩ rfl ?_
     refine cn 88 (decide (s3.2 < (p_s.Now.Nodes.length:Int))) rfl hB3 (fun hb hB3=>?_) fun hb hB3=>?_
     ·refine sk ?_
      obtain ⟨v7,hv7,hB3⟩:=bindS hB3
      refine Ok.seqw ⟨Cat.tab [(2,.b 2 0),(3,.b 3 0),(4,.b 4 0),(5,vi (p_s.Tick+1)),(6,.o 23),(11,.o 74),(12,vi s2.1),(13,vi v7),(14,vi s3.2)],[(2,.box [.s (mI p_s.Now.Nodes),vi p_s.Now.Next,vi p_s.Now.Cookie,vi p_s.Tick,.s (mB p_s.Since),.s (mA p_s.Pasts),.s (mU p_s.Taken),vi p_s.Next]),(3,.box [.s (mI p_t.Nodes),vi p_t.Next,vi p_t.Cookie]),(4,.box [.v (.slice none 0 0),vi (0),vi (0),vi (0),.v (.slice none 0 0),.v (.slice none 0 0),.v (.slice none 0 0),vi (0)]),(23,.own 75 8 (mA v1)),(74,.own 3 1 (mB s2.2))]⟩ ?_ ?_
      ·refine bl ?_
       refine sq ?_
       refine Ok.draw (m:=12) (MD:=⟨[]⟩) (CH:=⟨[]⟩) Tryz.tok Tryz.mixed (by kernel_rfl) ?_
       obtain ⟨x8,hx8,hv7⟩:=bindS hv7
       obtain ⟨x9,hx9,hv7⟩:=bindS hv7
       obtain ⟨x10,hx10,hv7⟩:=bindS hv7
       refine ⟨_,rfl,_,rfl,_,⟨_,rfl,rfl⟩,_,rfl,_,⟨_,idx_nat hx8,_,idx_row hx8,rfl⟩,_,⟨_,rfl,rfl⟩,_,rfl,_,⟨_,rfl,rfl⟩,_,rfl,_,⟨_,idx_nat hx9,_,idx_row hx9,rfl⟩,_,⟨_,rfl,rfl⟩,_,⟨_,.of_pure (w_ref07N6 hx10) (LeL.refl _),rfl⟩,Q0,?_⟩
       refine wT [(2,.b 2 0),(3,.b 3 0),(4,.b 4 0),(5,vi (p_s.Tick+1)),(6,.o 23),(11,.o 74),(12,vi s2.1),(13,vi s3.1),(14,vi s3.2),(102,vb x10)] [(2,.box [.s (mI p_s.Now.Nodes),vi p_s.Now.Next,vi p_s.Now.Cookie,vi p_s.Tick,.s (mB p_s.Since),.s (mA p_s.Pasts),.s (mU p_s.Taken),vi p_s.Next]),(3,.box [.s (mI p_t.Nodes),vi p_t.Next,vi p_t.Cookie]),(4,.box [.v (.slice none 0 0),vi (0),vi (0),vi (0),.v (.slice none 0 0),.v (.slice none 0 0),.v (.slice none 0 0),vi (0)]),(23,.own 75 8 (mA v1)),(74,.own 3 1 (mB s2.2))] ⟨lr,lr,Q8⟩ ⟨hr,J4⟩ rfl ?_
       refine cn 102 (x10) rfl hv7 (fun hb hv7=>?_) fun hb hv7=>?_
       ·refine rg ?_
        obtain ⟨x11,hx11,hv7⟩:=bindS hv7
        refine ⟨_,rfl,_,idx_nat hx11,_,idx_row hx11,_,rfl,?_⟩
        cases hv7
        exact wt ⟨lr,Q8⟩ ⟨hr,J4⟩ rfl
       refine sk ?_
       cases hv7
       exact wt ⟨lr,Q8⟩ ⟨hr,J4⟩ rfl
      refine rg ?_
      obtain ⟨hc5,hB3⟩:=chk_some hB3
      refine (Or.inl ⟨hc5,?_⟩)
      exact ⟨_,sj hB3,wt ⟨lr,Q8⟩ ⟨hr,J4⟩ rfl⟩
     refine xt ?_
     have hB3:=out_ret hB3 hy3
     cases hB3
     exact wt Q8 ⟨hr,J4⟩ rfl
    refine rg ?_
    obtain ⟨hc6,hv5⟩:=chk_some hv5
    refine Or.inl ⟨rowsLen_map (f:=Go.Cat.encI) (n:=1) (fun _=>rfl) ([v6]),app_b2 (f:=Go.Cat.encI) (l:=s2.2) (l':=[v6]) hc6,_,(List.map_append (f:=Go.Cat.encI) (l₁:=s2.2) (l₂:=[v6])).symm,?_⟩
    cases hv5
    exact wt Q7 ⟨hr,J4⟩ rfl
   refine rg ?_
   obtain ⟨hc7,hB2⟩:=chk_some hB2
   refine (Or.inl ⟨hc7,?_⟩)
   exact ⟨_,sj hB2,wt Q7 ⟨hr,J4⟩ rfl⟩
  refine xt ?_
  have hB2:=out_ret hB2 hy2
  cases hB2
  exact wt Q6 ⟨hr,J4⟩ rfl
 refine sg ?_
 refine ⟨_,rfl,_,rfl,_,rfl,_,rfl,?_⟩
 refine wT [(4,.b 4 0)] [(4,.box [.s (mI p_t.Nodes),vi p_t.Next,vi p_t.Cookie,vi (p_s.Tick+1),.o 74,.o 23,.s (mU p_s.Taken),vi p_s.Next]),(74,.own 3 1 (mB v4)),(23,.own 75 8 (mA v1))] Q1 J3 rfl ?_
 refine rt ?_
 cases h
 exact ⟨_,rfl,(Fz.a (.cons Fz.s (.cons Fz.v (.cons Fz.v (.cons Fz.v (.cons (Fz.o rfl) (.cons (Fz.o rfl) (.cons Fz.s (.cons Fz.v .nil)))))))))⟩
end Go.Proofs
