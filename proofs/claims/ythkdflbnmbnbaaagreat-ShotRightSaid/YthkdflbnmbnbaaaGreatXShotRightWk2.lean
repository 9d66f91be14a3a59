/- The walks of this seat beside the plain programs, part 2. No condition. -/
import Derived.Test.YthkdflbnmbnbaaaGreatXShotRightEn
import Derived.Test.YthkdflbnmbnbaaaGreatXShotRightWk0
import Derived.Test.YthkdflbnmbnbaaaGreatXShotRightWk1
namespace Go.Proofs
set_option linter.all false
open Go Go.Cat
variable [M:Mono]
set_option maxRecDepth 100000
theorem wg_shotN3 {p_l} {p_b0} {r} (h:shotN35 p_l p_b0=some r):CallOk Tryz.prog 49 [(.s (mA p_l)),(.c (.func 50) [] [(.b 1000 0)])] ⟨noSlots,[(1000,.box [(.s (mU p_b0))])]⟩ fun x s=>x=(.o 20)∧s.H=[(20,.own 75 8 (mA r)),(1000,.box [(.s (mU p_b0))])]:=by
 refine pgen_of_ok (n:=23) (c:=Tryz.f49.body.getD .skip) Tryz.tok Tryz.func49 (by kernel_rfl) rfl rfl (Nat.le_of_ble_eq_true rfl) ?_
 unfold shotN35 at h
 refine wT [(0,.s (mA p_l)),(1,.c (.func 50) [] [.b 1000 0])] [(1000,.box [.s (mU p_b0)])] Q2 J1 rfl ?_
 refine sg ?_
 refine wT [(0,.s (mA p_l)),(1,.c (.func 50) [] [.b 1000 0])] [(1000,.box [.s (mU p_b0)])] Q2 J1 rfl ?_
 refine sg ?_
 refine wT [(0,.s (mA p_l)),(1,.c (.func 50) [] [.b 1000 0]),(5,.v (.slice none 0 0))] [(1000,.box [.s (mU p_b0)])] Q3 J1 rfl ?_
 obtain ⟨v1,hv1,h⟩:=bindS h
 refine Ok.seqw ⟨Cat.tab [(5,.o 20)],[(20,.own 75 8 (mA v1)),(1000,.box [.s (mU p_b0)])]⟩ ?_ ?_
 ·refine sg ?_
  refine ⟨_,List.length_map _,fun _=>?_⟩
  refine wT [(1,.c (.func 50) [] [.b 1000 0]),(5,.v (.slice none 0 0)),(8,.s (mA p_l)),(9,vi (p_l.length:Int)),(10,vi (0))] [(1000,.box [.s (mU p_b0)])] Q5 J1 rfl ?_
  refine bl ?_
  refine Ok.loop (fun (s1:Int×(List api_Past))=>⟨Cat.tab [(1,.c (.func 50) [] [.b 1000 0]),(5,.o 20),(8,.s (mA p_l)),(9,vi (p_l.length:Int)),(10,vi s1.1)],[(1000,.box [.s (mU p_b0)]),(20,.own 75 8 (mA s1.2))]⟩) (shotN37 p_l p_b0) (s0:=(0,[])) hv1 ((Wk.own0 (t:=5) (id:=20) (E:=75) (K:=8) rfl rfl).trans (wt Q5 ⟨⟨_,rfl,.refl _⟩,⟨_,rfl,.refl _⟩,Q0⟩ rfl)) ?_
  intro s1 y1 hB1 hy1
  unfold shotN37 at hB1
  refine sg ?_
  refine wT [(1,.c (.func 50) [] [.b 1000 0]),(5,.o 20),(8,.s (mA p_l)),(9,vi (p_l.length:Int)),(10,vi s1.1),(11,vb (decide (s1.1 < (p_l.length:Int))))] [(1000,.box [.s (mU p_b0)]),(20,.own 75 8 (mA s1.2))] Q6 J2 rfl ?_
  refine sq ?_
  refine cn 11 (decide (s1.1 < (p_l.length:Int))) rfl hB1 (fun hb hB1=>?_) fun hb hB1=>?_
  ·refine sk ?_
   obtain ⟨v2,hv2,hB1⟩:=bindS hB1
   refine Ok.seqw ⟨Cat.tab [(1,.c (.func 50) [] [.b 1000 0]),(5,.o 20),(8,.s (mA p_l)),(9,vi (p_l.length:Int)),(10,vi s1.1)],[(1000,.box [.s (mU p_b0)]),(20,.own 75 8 (mA v2))]⟩ ?_ ?_
   ·refine bl ?_
    refine sg ?_
    obtain ⟨x1,hx1,hv2⟩:=bindS hv2
    refine ⟨_,idx_nat hx1,_,idx_row hx1,_,rfl,_,rfl,?_⟩
    refine wT [(1,.c (.func 50) [] [.b 1000 0]),(5,.o 20),(7,.b 7 0),(8,.s (mA p_l)),(9,vi (p_l.length:Int)),(10,vi s1.1)] [(1000,.box [.s (mU p_b0)]),(20,.own 75 8 (mA s1.2)),(7,.box [vi x1.From,vi x1.Till,vi x1.Node.Ino,vi x1.Node.Kind,vi x1.Node.Links,.s (mD x1.Node.Data),.s (mC x1.Node.Ents),vi x1.Node.Up])] Q6 J3 rfl ?_
    refine sg ?_
    obtain ⟨x2,hx2,hv2⟩:=bindS hv2
    refine ⟨_,rfl,?_⟩
    refine CallOk.borrow (w_shotN2 hx2) (.cons (Fz.a (.cons Fz.v (.cons Fz.v (.cons Fz.v (.cons Fz.v (.cons Fz.v (.cons Fz.s (.cons Fz.s (.cons Fz.v .nil))))))))) (.cons (Fz.b rfl rfl) (.nil))) rfl ?_
    refine wT [(1,.c (.func 50) [] [.b 1000 0]),(5,.o 20),(7,.b 7 0),(8,.s (mA p_l)),(9,vi (p_l.length:Int)),(10,vi s1.1),(16,vb x2)] [(1000,.box [.s (mU p_b0)]),(20,.own 75 8 (mA s1.2)),(7,.box [vi x1.From,vi x1.Till,vi x1.Node.Ino,vi x1.Node.Kind,vi x1.Node.Links,.s (mD x1.Node.Data),.s (mC x1.Node.Ents),vi x1.Node.Up])] Q7 J3 rfl ?_
    refine cn 16 (x2) rfl hv2 (fun hb hv2=>?_) fun hb hv2=>?_
    ·refine rg ?_
     obtain ⟨hc1,hv2⟩:=chk_some hv2
     refine ⟨_,rfl,Or.inl ⟨rowsLen_map (f:=c_api_Past) (n:=8) (fun _=>rfl) ([x1]),app_b2 (f:=c_api_Past) (l:=s1.2) (l':=[x1]) hc1,_,(List.map_append (f:=c_api_Past) (l₁:=s1.2) (l₂:=[x1])).symm,?_⟩⟩
     cases hv2
     exact wt Q5 J2 rfl
    refine sk ?_
    cases hv2
    exact wt Q5 J2 rfl
   refine rg ?_
   obtain ⟨hc2,hB1⟩:=chk_some hB1
   refine (Or.inl ⟨hc2,?_⟩)
   exact ⟨_,sj hB1,wt Q5 J2 rfl⟩
  refine xt ?_
  have hB1:=out_ret hB1 hy1
  cases hB1
  exact wt Q1 J2 rfl
 refine sg ?_
 refine wT [(4,.o 20)] [(20,.own 75 8 (mA v1)),(1000,.box [.s (mU p_b0)])] Q1 J2 rfl ?_
 refine rt ?_
 cases h
 exact wt Q1 J2 rfl
theorem w_shot_Drop {p_s} {p_id} {r} (h:shot_Drop p_s p_id=some r):Pure Tryz.prog 22 [(.a [(.s (mI p_s.Now.Nodes)),(vi p_s.Now.Next),(vi p_s.Now.Cookie),(vi p_s.Tick),(.s (mB p_s.Since)),(.s (mA p_s.Pasts)),(.s (mU p_s.Taken)),(vi p_s.Next)]),(vi p_id)] (.t [(.a [(.s (mI r.1.Now.Nodes)),(vi r.1.Now.Next),(vi r.1.Now.Cookie),(vi r.1.Tick),(.s (mB r.1.Since)),(.s (mA r.1.Pasts)),(.s (mU r.1.Taken)),(vi r.1.Next)]),(vi r.2)]):=by
 refine po Tryz.tok 26 Tryz.func22 (by kernel_rfl) rfl rfl rfl ?_
 unfold shot_Drop at h
 refine wE [(0,.a [.s (mI p_s.Now.Nodes),vi p_s.Now.Next,vi p_s.Now.Cookie,vi p_s.Tick,.s (mB p_s.Since),.s (mA p_s.Pasts),.s (mU p_s.Taken),vi p_s.Next]),(1,vi p_id)] Q2 ?_
 refine sg ?_
 refine wT [(2,.b 2 0),(3,.b 3 0),(4,.b 4 0)] [(2,.box [.s (mI p_s.Now.Nodes),vi p_s.Now.Next,vi p_s.Now.Cookie,vi p_s.Tick,.s (mB p_s.Since),.s (mA p_s.Pasts),.s (mU p_s.Taken),vi p_s.Next]),(3,.box [vi p_id]),(4,.box [.v (.slice none 0 0),vi (0),vi (0),vi (0),.v (.slice none 0 0),.v (.slice none 0 0),.v (.slice none 0 0),vi (0)])] Q3 J3 rfl ?_
 refine sg ?_
 obtain ⟨x1,hx1,h⟩:=bindS h
 refine ⟨_,rfl,?_⟩
 refine CallOk.ownLend (D:=10) (wo_shotN1 hx1) (.cons Fz.s (.cons (Fz.c .nil (.cons (Fz.b rfl rfl) .nil)) (.nil))) (rowsPlain (f:=c_api_Shot) (fun _=>rfl) _) rfl ?_
 refine ⟨_,rfl,?_⟩
 refine wT [(2,.b 2 0),(4,.b 4 0),(6,.b 6 0)] [(2,.box [.s (mI p_s.Now.Nodes),vi p_s.Now.Next,vi p_s.Now.Cookie,vi p_s.Tick,.s (mB p_s.Since),.s (mA p_s.Pasts),.s (mU p_s.Taken),vi p_s.Next]),(4,.box [.v (.slice none 0 0),vi (0),vi (0),vi (0),.v (.slice none 0 0),.v (.slice none 0 0),.v (.slice none 0 0),vi (0)]),(6,.box [.o 10]),(10,.own 47 3 (mU x1))] Q3 J4 rfl ?_
 refine sq ?_
 refine sg ?_
 refine ⟨_,rfl,_,List.length_map _,fun _=>⟨_,rfl,_,List.length_map _,fun _=>?_⟩⟩
 refine wT [(2,.b 2 0),(4,.b 4 0),(6,.b 6 0),(16,vb ((x1.length:Int) == (p_s.Taken.length:Int)))] [(2,.box [.s (mI p_s.Now.Nodes),vi p_s.Now.Next,vi p_s.Now.Cookie,vi p_s.Tick,.s (mB p_s.Since),.s (mA p_s.Pasts),.s (mU p_s.Taken),vi p_s.Next]),(4,.box [.v (.slice none 0 0),vi (0),vi (0),vi (0),.v (.slice none 0 0),.v (.slice none 0 0),.v (.slice none 0 0),vi (0)]),(6,.box [.o 10]),(10,.own 47 3 (mU x1))] Q4 J4 rfl ?_
 refine cn 16 ((x1.length:Int) == (p_s.Taken.length:Int)) rfl h (fun hb h=>?_) fun hb h=>?_
 ·refine sg ?_
  refine ⟨_,rfl,_,rfl,?_⟩
  refine wT [(4,.b 4 0),(5,vi (100))] [(4,.box [.s (mI p_s.Now.Nodes),vi p_s.Now.Next,vi p_s.Now.Cookie,vi p_s.Tick,.s (mB p_s.Since),.s (mA p_s.Pasts),.s (mU p_s.Taken),vi p_s.Next])] Q2 J1 rfl ?_
  refine rt ?_
  cases h
  exact ⟨_,rfl,(Fz.t (.cons (Fz.imm rfl) (.cons Fz.v .nil)))⟩
 refine sk ?_
 refine sg ?_
 refine ⟨_,rfl,_,rfl,?_⟩
 refine wT [(2,.b 2 0),(4,.b 4 0),(6,.b 6 0)] [(2,.box [.s (mI p_s.Now.Nodes),vi p_s.Now.Next,vi p_s.Now.Cookie,vi p_s.Tick,.s (mB p_s.Since),.s (mA p_s.Pasts),.o 10,vi p_s.Next]),(10,.own 47 3 (mU x1)),(4,.box [.v (.slice none 0 0),vi (0),vi (0),vi (0),.v (.slice none 0 0),.v (.slice none 0 0),.v (.slice none 0 0),vi (0)]),(6,.box [.o 10])] Q3 J4 rfl ?_
 refine sq ?_
 refine Ok.wk (Wk.freeze (id:=10) rfl) ?_
 refine rg ?_
 obtain ⟨x3,hx3,h⟩:=bindS h
 refine ⟨_,rfl,?_⟩
 refine CallOk.gen (m:=[(1000,6)]) (n:=[(20,999)]) (wg_shotN3 hx3) (.cons (Ln.imm rfl) (.cons (Ln.c (.nil) (.cons (Ln.b rfl) (.nil))) (.nil))) ⟨⟨6,_,rfl,rfl,.box (.cons (Ln.imm rfl) (.nil))⟩,Q0⟩ rfl rfl rfl ?_
 refine ⟨_,rfl,?_⟩
 refine wT [(2,.b 2 0),(4,.b 4 0)] [(2,.box [.s (mI p_s.Now.Nodes),vi p_s.Now.Next,vi p_s.Now.Cookie,vi p_s.Tick,.s (mB p_s.Since),.o 999,.s (mU x1),vi p_s.Next]),(999,.own 75 8 (mA x3)),(4,.box [.v (.slice none 0 0),vi (0),vi (0),vi (0),.v (.slice none 0 0),.v (.slice none 0 0),.v (.slice none 0 0),vi (0)])] Q2 J3 rfl ?_
 refine sg ?_
 refine ⟨_,rfl,_,rfl,?_⟩
 refine wT [(4,.b 4 0),(5,vi (0))] [(4,.box [.s (mI p_s.Now.Nodes),vi p_s.Now.Next,vi p_s.Now.Cookie,vi p_s.Tick,.s (mB p_s.Since),.o 999,.s (mU x1),vi p_s.Next]),(999,.own 75 8 (mA x3))] Q2 J2 rfl ?_
 refine rt ?_
 cases h
 exact ⟨_,rfl,(Fz.t (.cons (Fz.a (.cons Fz.s (.cons Fz.v (.cons Fz.v (.cons Fz.v (.cons Fz.s (.cons (Fz.o rfl) (.cons Fz.s (.cons Fz.v .nil))))))))) (.cons Fz.v .nil)))⟩
theorem wg_treeN1 {p_b0} {r} (h:treeN16 p_b0=some r):CallOk Tryz.prog 68 [(.b 1000 0)] ⟨noSlots,[(1000,.box [(.s (mI p_b0.Tree.Nodes)),(vi p_b0.Tree.Next),(vi p_b0.Tree.Cookie)])]⟩ fun x s=>x=(.t [(.m 10),(.m 11)])∧s.H=[(10,.mp false (List.map (fun p=>(p.1,Go.Cat.encI p.2)) r.1)),(11,.mp false (List.map (fun p=>(p.1,Go.Cat.encI p.2)) r.2)),(1000,.box [(.s (mI p_b0.Tree.Nodes)),(vi p_b0.Tree.Next),(vi p_b0.Tree.Cookie)])]:=by
 refine pgen_of_ok (n:=43) (c:=Tryz.f68.body.getD .skip) Tryz.tok Tryz.func68 (by kernel_rfl) rfl rfl (Nat.le_of_ble_eq_true rfl) ?_
 unfold treeN16 at h
 refine wT [(0,.b 1000 0)] [(1000,.box [.s (mI p_b0.Tree.Nodes),vi p_b0.Tree.Next,vi p_b0.Tree.Cookie])] Q1 J1 rfl ?_
 refine sg ?_
 refine wT [(0,.b 1000 0)] [(1000,.box [.s (mI p_b0.Tree.Nodes),vi p_b0.Tree.Next,vi p_b0.Tree.Cookie])] Q1 J1 rfl ?_
 refine sg ?_
 refine wT [(0,.b 1000 0),(4,.m 10),(5,.m 11)] [(1000,.box [.s (mI p_b0.Tree.Nodes),vi p_b0.Tree.Next,vi p_b0.Tree.Cookie]),(10,.mp false (List.map (fun p=>(p.1,Go.Cat.encI p.2)) ([]:List (Int×Int)))),(11,.mp false (List.map (fun p=>(p.1,Go.Cat.encI p.2)) ([]:List (Int×Int))))] Q3 ⟨⟨_,rfl,.refl _⟩,⟨_,rfl,.refl _⟩,⟨_,rfl,.refl _⟩,Q0⟩ rfl ?_
 obtain ⟨v1,hv1,h⟩:=bindS h
 refine Ok.seqw ⟨Cat.tab [(4,.m 10),(5,.m 11)],[(10,.mp false (List.map (fun p=>(p.1,Go.Cat.encI p.2)) v1.1)),(11,.mp false (List.map (fun p=>(p.1,Go.Cat.encI p.2)) v1.2)),(1000,.box [.s (mI p_b0.Tree.Nodes),vi p_b0.Tree.Next,vi p_b0.Tree.Cookie])]⟩ ?_ ?_
 ·refine sg ?_
  refine ⟨_,rfl,_,List.length_map _,fun _=>?_⟩
  refine wT [(4,.m 10),(5,.m 11),(16,.s (mI p_b0.Tree.Nodes)),(17,vi (p_b0.Tree.Nodes.length:Int)),(18,vi (0))] [(10,.mp false (List.map (fun p=>(p.1,Go.Cat.encI p.2)) ([]:List (Int×Int)))),(11,.mp false (List.map (fun p=>(p.1,Go.Cat.encI p.2)) ([]:List (Int×Int)))),(1000,.box [.s (mI p_b0.Tree.Nodes),vi p_b0.Tree.Next,vi p_b0.Tree.Cookie])] Q5 ⟨⟨_,rfl,.refl _⟩,⟨_,rfl,.refl _⟩,⟨_,rfl,.refl _⟩,Q0⟩ rfl ?_
  refine bl ?_
  refine Ok.loop (fun (s1:Int×(List (Int×Int))×(List (Int×Int)))=>⟨Cat.tab [(4,.m 10),(5,.m 11),(16,.s (mI p_b0.Tree.Nodes)),(17,vi (p_b0.Tree.Nodes.length:Int)),(18,vi s1.1)],[(10,.mp false (List.map (fun p=>(p.1,Go.Cat.encI p.2)) s1.2.1)),(11,.mp false (List.map (fun p=>(p.1,Go.Cat.encI p.2)) s1.2.2)),(1000,.box [.s (mI p_b0.Tree.Nodes),vi p_b0.Tree.Next,vi p_b0.Tree.Cookie])]⟩) (treeN18 p_b0) (s0:=(0,([]:List (Int×Int)),([]:List (Int×Int)))) hv1 (wt Q5 ⟨⟨_,rfl,.refl _⟩,⟨_,rfl,.refl _⟩,⟨_,rfl,.refl _⟩,Q0⟩ rfl) ?_
  intro s1 y1 hB1 hy1
  unfold treeN18 at hB1
  refine sg ?_
  refine wT [(4,.m 10),(5,.m 11),(16,.s (mI p_b0.Tree.Nodes)),(17,vi (p_b0.Tree.Nodes.length:Int)),(18,vi s1.1),(19,vb (decide (s1.1 < (p_b0.Tree.Nodes.length:Int))))] [(10,.mp false (List.map (fun p=>(p.1,Go.Cat.encI p.2)) s1.2.1)),(11,.mp false (List.map (fun p=>(p.1,Go.Cat.encI p.2)) s1.2.2)),(1000,.box [.s (mI p_b0.Tree.Nodes),vi p_b0.Tree.Next,vi p_b0.Tree.Cookie])] Q6 ⟨⟨_,rfl,.refl _⟩,⟨_,rfl,.refl _⟩,⟨_,rfl,.refl _⟩,Q0⟩ rfl ?_
  refine sq ?_
  refine cn 19 (decide (s1.1 < (p_b0.Tree.Nodes.length:Int))) rfl hB1 (fun hb hB1=>?_) fun hb hB1=>?_
  ·refine sk ?_
   obtain ⟨v2,hv2,hB1⟩:=bindS hB1
   refine Ok.seqw ⟨Cat.tab [(4,.m 10),(5,.m 11),(16,.s (mI p_b0.Tree.Nodes)),(17,vi (p_b0.Tree.Nodes.length:Int)),(18,vi s1.1)],[(10,.mp false (List.map (fun p=>(p.1,Go.Cat.encI p.2)) v2.1)),(11,.mp false (List.map (fun p=>(p.1,Go.Cat.encI p.2)) v2.2)),(1000,.box [.s (mI p_b0.Tree.Nodes),vi p_b0.Tree.Next,vi p_b0.Tree.Cookie])]⟩ ?_ ?_
   ·refine bl ?_
    refine sg ?_
    obtain ⟨x1,hx1,hv2⟩:=bindS hv2
    refine ⟨_,idx_nat hx1,_,idx_row hx1,_,rfl,_,rfl,?_⟩
    refine wT [(4,.m 10),(5,.m 11),(7,.b 7 0),(16,.s (mI p_b0.Tree.Nodes)),(17,vi (p_b0.Tree.Nodes.length:Int)),(18,vi s1.1)] [(10,.mp false (List.map (fun p=>(p.1,Go.Cat.encI p.2)) s1.2.1)),(11,.mp false (List.map (fun p=>(p.1,Go.Cat.encI p.2)) s1.2.2)),(7,.box [vi x1.Ino,vi x1.Kind,vi x1.Links,.s (mD x1.Data),.s (mC x1.Ents),vi x1.Up]),(1000,.box [.s (mI p_b0.Tree.Nodes),vi p_b0.Tree.Next,vi p_b0.Tree.Cookie])] Q6 ⟨⟨_,rfl,.refl _⟩,⟨_,rfl,.refl _⟩,⟨_,rfl,.refl _⟩,⟨_,rfl,.refl _⟩,Q0⟩ rfl ?_
    refine sg ?_
    refine ⟨_,rfl,_,List.length_map _,fun _=>?_⟩
    refine wT [(4,.m 10),(5,.m 11),(7,.b 7 0),(16,.s (mI p_b0.Tree.Nodes)),(17,vi (p_b0.Tree.Nodes.length:Int)),(18,vi s1.1),(23,.s (mC x1.Ents)),(24,vi (x1.Ents.length:Int)),(25,vi (0))] [(10,.mp false (List.map (fun p=>(p.1,Go.Cat.encI p.2)) s1.2.1)),(11,.mp false (List.map (fun p=>(p.1,Go.Cat.encI p.2)) s1.2.2)),(7,.box [vi x1.Ino,vi x1.Kind,vi x1.Links,.s (mD x1.Data),.s (mC x1.Ents),vi x1.Up]),(1000,.box [.s (mI p_b0.Tree.Nodes),vi p_b0.Tree.Next,vi p_b0.Tree.Cookie])] ⟨lr,Q8⟩ ⟨⟨_,rfl,.refl _⟩,⟨_,rfl,.refl _⟩,⟨_,rfl,.refl _⟩,⟨_,rfl,.refl _⟩,Q0⟩ rfl ?_
    refine bl ?_
    refine Ok.loop (fun (s2:Int×(List (Int×Int))×(List (Int×Int)))=>⟨Cat.tab [(4,.m 10),(5,.m 11),(7,.b 7 0),(16,.s (mI p_b0.Tree.Nodes)),(17,vi (p_b0.Tree.Nodes.length:Int)),(18,vi s1.1),(23,.s (mC x1.Ents)),(24,vi (x1.Ents.length:Int)),(25,vi s2.1)],[(10,.mp false (List.map (fun p=>(p.1,Go.Cat.encI p.2)) s2.2.1)),(11,.mp false (List.map (fun p=>(p.1,Go.Cat.encI p.2)) s2.2.2)),(7,.box [vi x1.Ino,vi x1.Kind,vi x1.Links,.s (mD x1.Data),.s (mC x1.Ents),vi x1.Up]),(1000,.box [.s (mI p_b0.Tree.Nodes),vi p_b0.Tree.Next,vi p_b0.Tree.Cookie])]⟩) (treeN20 x1) (s0:=(0,s1.2.1,s1.2.2)) hv2 (wt ⟨lr,Q8⟩ ⟨⟨_,rfl,.refl _⟩,⟨_,rfl,.refl _⟩,⟨_,rfl,.refl _⟩,⟨_,rfl,.refl _⟩,Q0⟩ rfl) ?_
    intro s2 y2 hB2 hy2
    unfold treeN20 at hB2
    refine sg ?_
    refine wT [(4,.m 10),(5,.m 11),(7,.b 7 0),(16,.s (mI p_b0.Tree.Nodes)),(17,vi (p_b0.Tree.Nodes.length:Int)),(18,vi s1.1),(23,.s (mC x1.Ents)),(24,vi (x1.Ents.length:Int)),(25,vi s2.1),(26,vb (decide (s2.1 < (x1.Ents.length:Int))))] [(10,.mp false (List.map (fun p=>(p.1,Go.Cat.encI p.2)) s2.2.1)),(11,.mp false (List.map (fun p=>(p.1,Go.Cat.encI p.2)) s2.2.2)),(7,.box [vi x1.Ino,vi x1.Kind,vi x1.Links,.s (mD x1.Data),.s (mC x1.Ents),vi x1.Up]),(1000,.box [.s (mI p_b0.Tree.Nodes),vi p_b0.Tree.Next,vi p_b0.Tree.Cookie])] ⟨lr,lr,Q8⟩ ⟨⟨_,rfl,.refl _⟩,⟨_,rfl,.refl _⟩,⟨_,rfl,.refl _⟩,⟨_,rfl,.refl _⟩,Q0⟩ rfl ?_
    refine sq ?_
    refine cn 26 (decide (s2.1 < (x1.Ents.length:Int))) rfl hB2 (fun hb hB2=>?_) fun hb hB2=>?_
    ·refine sk ?_
     refine sq ?_
     refine bl ?_
     refine sg ?_
     obtain ⟨x2,hx2,hB2⟩:=bindS hB2
     refine ⟨_,idx_nat hx2,_,idx_row hx2,_,rfl,_,rfl,?_⟩
     refine wT [(4,.m 10),(5,.m 11),(7,.b 7 0),(9,.b 9 0),(16,.s (mI p_b0.Tree.Nodes)),(17,vi (p_b0.Tree.Nodes.length:Int)),(18,vi s1.1),(23,.s (mC x1.Ents)),(24,vi (x1.Ents.length:Int)),(25,vi s2.1)] [(10,.mp false (List.map (fun p=>(p.1,Go.Cat.encI p.2)) s2.2.1)),(11,.mp false (List.map (fun p=>(p.1,Go.Cat.encI p.2)) s2.2.2)),(7,.box [vi x1.Ino,vi x1.Kind,vi x1.Links,.s (mD x1.Data),.s (mC x1.Ents),vi x1.Up]),(9,.box [vs x2.Name,vi x2.Ino,vi x2.Cookie]),(1000,.box [.s (mI p_b0.Tree.Nodes),vi p_b0.Tree.Next,vi p_b0.Tree.Cookie])] ⟨lr,lr,Q8⟩ ⟨⟨_,rfl,.refl _⟩,⟨_,rfl,.refl _⟩,⟨_,rfl,.refl _⟩,⟨_,rfl,.refl _⟩,⟨_,rfl,.refl _⟩,Q0⟩ rfl ?_
     refine sg ?_
     obtain ⟨x3,hx3,hB2⟩:=bindS hB2
     obtain ⟨hc1,hB2⟩:=chk_some hB2
     obtain ⟨hc2,hB2⟩:=chk_some hB2
     refine ⟨_,rfl,_,lk_val Go.Cat.encI (z:=(0:Int)) hx3,(Or.inl ⟨hc1,hc2.1,Nat.lt_of_le_of_lt (Nat.le_of_eq (List.length_map _)) hc2.2,_,mset_map Go.Cat.encI x2.Ino (x3+1) s2.2.1,?_⟩)⟩
     refine wT [(4,.m 10),(5,.m 11),(7,.b 7 0),(9,.b 9 0),(16,.s (mI p_b0.Tree.Nodes)),(17,vi (p_b0.Tree.Nodes.length:Int)),(18,vi s1.1),(23,.s (mC x1.Ents)),(24,vi (x1.Ents.length:Int)),(25,vi s2.1)] [(10,.mp false (List.map (fun p=>(p.1,Go.Cat.encI p.2)) (mset x2.Ino (x3+1) s2.2.1))),(11,.mp false (List.map (fun p=>(p.1,Go.Cat.encI p.2)) s2.2.2)),(7,.box [vi x1.Ino,vi x1.Kind,vi x1.Links,.s (mD x1.Data),.s (mC x1.Ents),vi x1.Up]),(9,.box [vs x2.Name,vi x2.Ino,vi x2.Cookie]),(1000,.box [.s (mI p_b0.Tree.Nodes),vi p_b0.Tree.Next,vi p_b0.Tree.Cookie])] ⟨lr,lr,Q8⟩ ⟨⟨_,rfl,.refl _⟩,⟨_,rfl,.refl _⟩,⟨_,rfl,.refl _⟩,⟨_,rfl,.refl _⟩,⟨_,rfl,.refl _⟩,Q0⟩ rfl ?_
     refine rg ?_
     obtain ⟨hc3,hB2⟩:=chk_some hB2
     refine ⟨_,rfl,_,rfl,hc3.1,Nat.lt_of_le_of_lt (Nat.le_of_eq (List.length_map _)) hc3.2,_,mset_map Go.Cat.encI x2.Ino x1.Ino s2.2.2,?_⟩
     refine wT [(4,.m 10),(5,.m 11),(7,.b 7 0),(16,.s (mI p_b0.Tree.Nodes)),(17,vi (p_b0.Tree.Nodes.length:Int)),(18,vi s1.1),(23,.s (mC x1.Ents)),(24,vi (x1.Ents.length:Int)),(25,vi s2.1)] [(10,.mp false (List.map (fun p=>(p.1,Go.Cat.encI p.2)) (mset x2.Ino (x3+1) s2.2.1))),(11,.mp false (List.map (fun p=>(p.1,Go.Cat.encI p.2)) (mset x2.Ino x1.Ino s2.2.2))),(7,.box [vi x1.Ino,vi x1.Kind,vi x1.Links,.s (mD x1.Data),.s (mC x1.Ents),vi x1.Up]),(1000,.box [.s (mI p_b0.Tree.Nodes),vi p_b0.Tree.Next,vi p_b0.Tree.Cookie])] ⟨lr,Q8⟩ ⟨⟨_,rfl,.refl _⟩,⟨_,rfl,.refl _⟩,⟨_,rfl,.refl _⟩,⟨_,rfl,.refl _⟩,Q0⟩ rfl ?_
     refine rg ?_
     obtain ⟨hc4,hB2⟩:=chk_some hB2
     refine (Or.inl ⟨hc4,?_⟩)
     exact ⟨_,sj hB2,wt ⟨lr,Q8⟩ J4 rfl⟩
    refine xt ?_
    have hB2:=out_ret hB2 hy2
    cases hB2
    exact wt Q5 J3 rfl
   refine rg ?_
   obtain ⟨hc5,hB1⟩:=chk_some hB1
   refine (Or.inl ⟨hc5,?_⟩)
   exact ⟨_,sj hB1,wt Q5 J3 rfl⟩
  refine xt ?_
  have hB1:=out_ret hB1 hy1
  cases hB1
  exact wt Q2 J3 rfl
 refine sg ?_
 refine wT [(2,.m 10),(3,.m 11)] [(10,.mp false (List.map (fun p=>(p.1,Go.Cat.encI p.2)) v1.1)),(11,.mp false (List.map (fun p=>(p.1,Go.Cat.encI p.2)) v1.2)),(1000,.box [.s (mI p_b0.Tree.Nodes),vi p_b0.Tree.Next,vi p_b0.Tree.Cookie])] Q2 ⟨⟨_,rfl,.refl _⟩,⟨_,rfl,.refl _⟩,⟨_,rfl,.refl _⟩,Q0⟩ rfl ?_
 refine rt ?_
 cases h
 exact wt Q1 J3 rfl
theorem w_nameN1 {p_s} {r} (h:name_Right p_s=some r):Pure Tryz.prog 108 [(vs p_s)] (vb r):=by
 refine po Tryz.tok 31 Tryz.func108 (by kernel_rfl) rfl rfl rfl ?_
 unfold name_Right at h
 refine wE [(0,vs p_s)] Q1 ?_
 refine sg ?_
 refine wE [(0,vs p_s)] Q1 ?_
 refine sq ?_
 obtain ⟨v1,hv1,h⟩:=bindS h
 refine Ok.seqw ⟨Cat.tab [(0,vs p_s),(19,vb v1)],[]⟩ ?_ ?_
 ·refine rg ?_
  refine ⟨_,str_eql _ _,?_⟩
  obtain ⟨c1,hg1,hv1⟩:=bindS hv1
  refine Br.itf hg1 (fun hb hg1=>?_) fun hb hg1=>?_
  ·cases hg1
   obtain ⟨c2,hg2,hv1⟩:=bindS hv1
   replace hg2:=iteT hg2
   cases hg2
   obtain ⟨c3,hg3,hv1⟩:=bindS hv1
   replace hg3:=iteT hg3
   cases hg3
   cases hv1
   exact wt Q2 Q0 rfl
  refine ⟨_,str_size _,?_⟩
  cases hg1
  obtain ⟨c2,hg4,hv1⟩:=bindS hv1
  refine Br.itf hg4 (fun hb hg4=>?_) fun hb hg4=>?_
  ·cases hg4
   obtain ⟨c3,hg5,hv1⟩:=bindS hv1
   replace hg5:=iteT hg5
   cases hg5
   cases hv1
   exact wt Q2 Q0 rfl
  refine ⟨_,str_eql _ _,?_⟩
  cases hg4
  obtain ⟨c3,hg6,hv1⟩:=bindS hv1
  refine Br.itf hg6 (fun hb hg6=>?_) fun hb hg6=>?_
  ·cases hg6
   cases hv1
   exact wt Q2 Q0 rfl
  refine ⟨_,str_eql _ _,?_⟩
  cases hg6
  cases hv1
  exact wt Q2 Q0 rfl
 refine cn 19 (v1) rfl h (fun hb h=>?_) fun hb h=>?_
 ·refine sg ?_
  refine wE [(2,vb false)] Q1 ?_
  refine rt ?_
  cases h
  exact Fz.v
 refine sk ?_
 refine Ok.seqj (fun v2=>⟨Cat.tab [],[]⟩) (fun v2=>nameN3 v2=some r) ?_ ?_
 ·refine sg ?_
  refine wT [(21,.b 21 0)] [(21,.si ⟨p_s.toArray⟩ (0))] Q1 J1 rfl ?_
  refine bl ?_
  refine Ok.loop (fun (s1:Nat)=>⟨Cat.tab [(21,.b 21 0)],[(21,.si ⟨p_s.toArray⟩ s1)]⟩) (nameN1 p_s) (s0:=0) h (wt Q1 ⟨⟨_,rfl,.refl _⟩,Q0⟩ rfl) ?_
  intro s1 y1 hB1 hy1
  unfold nameN1 at hB1
  refine sg ?_
  refine nx_ite hB1 (fun hB1=>?_) fun hB1=>?_
  ·refine wT [(21,.b 21 0),(22,.t [vb true,vi ((s1:Nat):Int),.v (.int .i32 (((decR p_s s1).1:Nat):Int))]),(23,vb true)] [(21,.si ⟨p_s.toArray⟩ (s1+(decR p_s s1).2))] Q3 J1 rfl ?_
   refine sq ?_
   refine Ok.condT rfl ?_
   refine sk ?_
   refine bl ?_
   refine sg ?_
   refine wT [(4,.v (.int .i32 (((decR p_s s1).1:Nat):Int))),(21,.b 21 0)] [(21,.si ⟨p_s.toArray⟩ (s1+(decR p_s s1).2))] Q2 J1 rfl ?_
   obtain ⟨v3,hv3,hB1⟩:=bindS hB1
   refine Ok.seqw ⟨Cat.tab [(21,.b 21 0),(30,vb v3)],[(21,.si ⟨p_s.toArray⟩ (s1+(decR p_s s1).2))]⟩ ?_ ?_
   ·refine rg ?_
    obtain ⟨c4,hg7,hv3⟩:=bindS hv3
    refine Br.itf hg7 (fun hb hg7=>?_) fun hb hg7=>?_
    ·cases hg7
     cases hv3
     exact wt Q2 J1 rfl
    cases hg7
    cases hv3
    exact wt Q2 J1 rfl
   refine cn 30 (v3) rfl hB1 (fun hb hB1=>?_) fun hb hB1=>?_
   ·refine sg ?_
    refine wE [(2,vb false)] Q1 ?_
    refine rt ?_
    have hB1:=out_ret hB1 hy1
    cases hB1
    exact Fz.v
   refine sk ?_
   exact ⟨_,sj hB1,wt Q1 J1 rfl⟩
  refine wT [(21,.b 21 0),(22,.t [vb false]),(23,vb false)] [(21,.si ⟨p_s.toArray⟩ s1)] Q3 J1 rfl ?_
  refine sq ?_
  refine Ok.condF rfl ?_
  refine xt ?_
  have hB1:=out_ret hB1 hy1
  exact ⟨_,hB1,wt Q0 Q0 rfl⟩
 intro v2 h
 unfold nameN3 at h
 refine sg ?_
 refine wE [(2,vb true)] Q1 ?_
 refine rt ?_
 cases h
 exact Fz.v
theorem w_treeN7 {self} {p_n} {r} (h:treeN30 self p_n=some r):PChg Tryz.prog 100 [(.b 1000 0),(.a [(vi p_n.Ino),(vi p_n.Kind),(vi p_n.Links),(.s (mD p_n.Data)),(.s (mC p_n.Ents)),(vi p_n.Up)])] (.box [(.s (mI self.Tree.Nodes)),(vi self.Tree.Next),(vi self.Tree.Cookie)]) (fun x c=>x=(vb r.1)∧c=.box [(.s (mI r.2.Tree.Nodes)),(vi r.2.Tree.Next),(vi r.2.Tree.Cookie)]):=by
 refine pchg_of_ok (n:=79) (c:=Tryz.f100.body.getD .skip) Tryz.tok Tryz.func100 (by kernel_rfl) rfl rfl (Nat.le_of_ble_eq_true rfl) ?_
 unfold treeN30 at h
 refine wT [(0,.b 1000 0),(1,.a [vi p_n.Ino,vi p_n.Kind,vi p_n.Links,.s (mD p_n.Data),.s (mC p_n.Ents),vi p_n.Up])] [(1000,.box [.s (mI self.Tree.Nodes),vi self.Tree.Next,vi self.Tree.Cookie])] Q2 J1 rfl ?_
 refine sg ?_
 refine wT [(0,.b 1000 0),(3,.b 3 0)] [(1000,.box [.s (mI self.Tree.Nodes),vi self.Tree.Next,vi self.Tree.Cookie]),(3,.box [vi p_n.Ino,vi p_n.Kind,vi p_n.Links,.s (mD p_n.Data),.s (mC p_n.Ents),vi p_n.Up])] Q2 J2 rfl ?_
 refine sg ?_
 refine wT [(0,.b 1000 0),(3,.b 3 0),(5,.m 10)] [(1000,.box [.s (mI self.Tree.Nodes),vi self.Tree.Next,vi self.Tree.Cookie]),(3,.box [vi p_n.Ino,vi p_n.Kind,vi p_n.Links,.s (mD p_n.Data),.s (mC p_n.Ents),vi p_n.Up]),(10,.mp false (List.map (fun p=>(p.1,cB p.2)) ([]:List (Int×Bool))))] Q3 ⟨⟨_,rfl,.refl _⟩,⟨_,rfl,.refl _⟩,⟨_,rfl,.refl _⟩,Q0⟩ rfl ?_
 refine Ok.seqj (fun v1=>⟨Cat.tab [(3,.b 3 0)],[(3,.box [vi p_n.Ino,vi p_n.Kind,vi p_n.Links,.s (mD p_n.Data),.s (mC p_n.Ents),vi p_n.Up]),(1000,.box [.s (mI v1.1),vi v1.2.1,vi v1.2.2])]⟩) (fun v1=>treeN34 p_n v1=some r) ?_ ?_
 ·refine sg ?_
  refine ⟨_,rfl,_,List.length_map _,fun _=>?_⟩
  refine wT [(0,.b 1000 0),(3,.b 3 0),(5,.m 10),(12,.s (mC p_n.Ents)),(13,vi (p_n.Ents.length:Int)),(14,vi (0))] [(1000,.box [.s (mI self.Tree.Nodes),vi self.Tree.Next,vi self.Tree.Cookie]),(3,.box [vi p_n.Ino,vi p_n.Kind,vi p_n.Links,.s (mD p_n.Data),.s (mC p_n.Ents),vi p_n.Up]),(10,.mp false (List.map (fun p=>(p.1,cB p.2)) ([]:List (Int×Bool))))] Q6 ⟨⟨_,rfl,.refl _⟩,⟨_,rfl,.refl _⟩,⟨_,rfl,.refl _⟩,Q0⟩ rfl ?_
  refine bl ?_
  refine Ok.loop (fun (s1:Int×(List api_Node)×Int×Int×(List (Int×Bool)))=>⟨Cat.tab [(0,.b 1000 0),(3,.b 3 0),(5,.m 10),(12,.s (mC p_n.Ents)),(13,vi (p_n.Ents.length:Int)),(14,vi s1.1)],[(1000,.box [.s (mI s1.2.1),vi s1.2.2.1,vi s1.2.2.2.1]),(3,.box [vi p_n.Ino,vi p_n.Kind,vi p_n.Links,.s (mD p_n.Data),.s (mC p_n.Ents),vi p_n.Up]),(10,.mp false (List.map (fun p=>(p.1,cB p.2)) s1.2.2.2.2))]⟩) (treeN32 p_n) (s0:=(0,self.Tree.Nodes,self.Tree.Next,self.Tree.Cookie,([]:List (Int×Bool)))) h (wt Q6 ⟨⟨_,rfl,.refl _⟩,⟨_,rfl,.refl _⟩,⟨_,rfl,.refl _⟩,Q0⟩ rfl) ?_
  intro s1 y1 hB1 hy1
  unfold treeN32 at hB1
  refine sg ?_
  refine wT [(0,.b 1000 0),(3,.b 3 0),(5,.m 10),(12,.s (mC p_n.Ents)),(13,vi (p_n.Ents.length:Int)),(14,vi s1.1),(15,vb (decide (s1.1 < (p_n.Ents.length:Int))))] [(1000,.box [.s (mI s1.2.1),vi s1.2.2.1,vi s1.2.2.2.1]),(3,.box [vi p_n.Ino,vi p_n.Kind,vi p_n.Links,.s (mD p_n.Data),.s (mC p_n.Ents),vi p_n.Up]),(10,.mp false (List.map (fun p=>(p.1,cB p.2)) s1.2.2.2.2))] Q7 ⟨⟨_,rfl,.refl _⟩,⟨_,rfl,.refl _⟩,⟨_,rfl,.refl _⟩,Q0⟩ rfl ?_
  refine sq ?_
  refine cn 15 (decide (s1.1 < (p_n.Ents.length:Int))) rfl hB1 (fun hb hB1=>?_) fun hb hB1=>?_
  ·refine sk ?_
   refine sq ?_
   refine bl ?_
   refine sg ?_
   obtain ⟨x1,hx1,hB1⟩:=bindS hB1
   refine ⟨_,idx_nat hx1,_,idx_row hx1,_,rfl,_,rfl,?_⟩
   refine wT [(0,.b 1000 0),(3,.b 3 0),(5,.m 10),(6,vi s1.1),(7,.b 7 0),(12,.s (mC p_n.Ents)),(13,vi (p_n.Ents.length:Int)),(14,vi s1.1)] [(1000,.box [.s (mI s1.2.1),vi s1.2.2.1,vi s1.2.2.2.1]),(3,.box [vi p_n.Ino,vi p_n.Kind,vi p_n.Links,.s (mD p_n.Data),.s (mC p_n.Ents),vi p_n.Up]),(10,.mp false (List.map (fun p=>(p.1,cB p.2)) s1.2.2.2.2)),(7,.box [vs x1.Name,vi x1.Ino,vi x1.Cookie])] Q8 ⟨⟨_,rfl,.refl _⟩,⟨_,rfl,.refl _⟩,⟨_,rfl,.refl _⟩,⟨_,rfl,.refl _⟩,Q0⟩ rfl ?_
   refine sq ?_
   refine sg ?_
   obtain ⟨x2,hx2,hB1⟩:=bindS hB1
   refine ⟨_,rfl,?_⟩
   refine CallOk.chgLe (id:=1000) (w_treeN3 hx2) rfl (.box (.cons (lr) (.cons (lr) (.cons (lr) (.nil))))) rfl (.cons (Lr.b) (.cons (Lr.imm rfl) (.nil))) ?_
   rintro _ _ ⟨rfl,rfl⟩
   refine wT [(0,.b 1000 0),(3,.b 3 0),(5,.m 10),(6,vi s1.1),(7,.b 7 0),(9,vb x2.1.2),(12,.s (mC p_n.Ents)),(13,vi (p_n.Ents.length:Int)),(14,vi s1.1)] [(1000,.box [.s (mI x2.2.Tree.Nodes),vi x2.2.Tree.Next,vi x2.2.Tree.Cookie]),(3,.box [vi p_n.Ino,vi p_n.Kind,vi p_n.Links,.s (mD p_n.Data),.s (mC p_n.Ents),vi p_n.Up]),(10,.mp false (List.map (fun p=>(p.1,cB p.2)) s1.2.2.2.2)),(7,.box [vs x1.Name,vi x1.Ino,vi x1.Cookie])] ⟨lr,Q8⟩ ⟨⟨_,rfl,.refl _⟩,⟨_,rfl,.refl _⟩,⟨_,rfl,.refl _⟩,⟨_,rfl,.refl _⟩,Q0⟩ rfl ?_
   obtain ⟨v2,hv2,hB1⟩:=bindS hB1
   refine Ok.seqw ⟨Cat.tab [(0,.b 1000 0),(3,.b 3 0),(5,.m 10),(7,.b 7 0),(12,.s (mC p_n.Ents)),(13,vi (p_n.Ents.length:Int)),(14,vi s1.1),(70,vb v2)],[(1000,.box [.s (mI x2.2.Tree.Nodes),vi x2.2.Tree.Next,vi x2.2.Tree.Cookie]),(3,.box [vi p_n.Ino,vi p_n.Kind,vi p_n.Links,.s (mD p_n.Data),.s (mC p_n.Ents),vi p_n.Up]),(10,.mp false (List.map (fun p=>(p.1,cB p.2)) s1.2.2.2.2)),(7,.box [vs x1.Name,vi x1.Ino,vi x1.Cookie])]⟩ ?_ ?_
   ·refine Ok.draw (m:=45) (MD:=⟨[]⟩) (CH:=⟨[]⟩) Tryz.tok Tryz.mixed (by kernel_rfl) ?_
    refine ⟨_,rfl,_,rfl,_,rfl,?_⟩
    obtain ⟨c1,hg1,hv2⟩:=bindS hv2
    refine Br.itf hg1 (fun hb hg1=>?_) fun hb hg1=>?_
    ·cases hg1
     refine ⟨_,rfl,?_⟩
     refine ⟨_,rfl,?_⟩
     obtain ⟨c2,hg2,hv2⟩:=bindS hv2
     replace hg2:=iteT hg2
     cases hg2
     refine ⟨_,rfl,?_⟩
     refine ⟨_,rfl,?_⟩
     obtain ⟨c3,hg3,hv2⟩:=bindS hv2
     replace hg3:=iteT hg3
     cases hg3
     refine ⟨_,rfl,?_⟩
     refine ⟨_,rfl,?_⟩
     obtain ⟨c4,hg4,hv2⟩:=bindS hv2
     replace hg4:=iteT hg4
     cases hg4
     refine ⟨_,rfl,?_⟩
     refine ⟨_,rfl,?_⟩
     obtain ⟨c6,hg5,hv2⟩:=bindS hv2
     replace hg5:=iteT hg5
     cases hg5
     refine ⟨_,rfl,?_⟩
     refine ⟨Q0,?_⟩
     cases hv2
     exact wt Q8 J4 rfl
    obtain ⟨x3,hx3,hg1⟩:=bindS hg1
    refine ⟨_,rfl,_,⟨_,rfl,rfl⟩,_,⟨_,.of_pure (w_nameN1 hx3) (LeL.refl _),rfl⟩,_,rfl,?_⟩
    cases hg1
    refine ⟨_,rfl,?_⟩
    refine ⟨_,rfl,?_⟩
    obtain ⟨c2,hg6,hv2⟩:=bindS hv2
    refine Br.itf hg6 (fun hb hg6=>?_) fun hb hg6=>?_
    ·cases hg6
     refine ⟨_,rfl,?_⟩
     refine ⟨_,rfl,?_⟩
     obtain ⟨c3,hg7,hv2⟩:=bindS hv2
     replace hg7:=iteT hg7
     cases hg7
     refine ⟨_,rfl,?_⟩
     refine ⟨_,rfl,?_⟩
     obtain ⟨c4,hg8,hv2⟩:=bindS hv2
     replace hg8:=iteT hg8
     cases hg8
     refine ⟨_,rfl,?_⟩
     refine ⟨_,rfl,?_⟩
     obtain ⟨c6,hg9,hv2⟩:=bindS hv2
     replace hg9:=iteT hg9
     cases hg9
     refine ⟨_,rfl,?_⟩
     refine ⟨Q0,?_⟩
     cases hv2
     exact wt Q8 J4 rfl
    refine ⟨_,rfl,_,⟨_,rfl,rfl⟩,_,rfl,?_⟩
    cases hg6
    refine ⟨_,rfl,?_⟩
    refine ⟨_,rfl,?_⟩
    obtain ⟨c3,hg10,hv2⟩:=bindS hv2
    refine Br.itf hg10 (fun hb hg10=>?_) fun hb hg10=>?_
    ·cases hg10
     refine ⟨_,rfl,?_⟩
     refine ⟨_,rfl,?_⟩
     obtain ⟨c4,hg11,hv2⟩:=bindS hv2
     replace hg11:=iteT hg11
     cases hg11
     refine ⟨_,rfl,?_⟩
     refine ⟨_,rfl,?_⟩
     obtain ⟨c6,hg12,hv2⟩:=bindS hv2
     replace hg12:=iteT hg12
     cases hg12
     refine ⟨_,rfl,?_⟩
     refine ⟨Q0,?_⟩
     cases hv2
     exact wt Q8 J4 rfl
    refine ⟨_,rfl,_,⟨_,rfl,rfl⟩,_,rfl,_,rfl,_,rfl,_,rfl,_,⟨_,rfl,rfl⟩,_,rfl,?_⟩
    cases hg10
    refine ⟨_,rfl,?_⟩
    refine ⟨_,rfl,?_⟩
    obtain ⟨c4,hg13,hv2⟩:=bindS hv2
    refine Br.itf hg13 (fun hb hg13=>?_) fun hb hg13=>?_
    ·cases hg13
     refine ⟨_,rfl,?_⟩
     refine ⟨_,rfl,?_⟩
     obtain ⟨c6,hg14,hv2⟩:=bindS hv2
     replace hg14:=iteT hg14
     cases hg14
     refine ⟨_,rfl,?_⟩
     refine ⟨Q0,?_⟩
     cases hv2
     exact wt Q8 J4 rfl
    obtain ⟨x4,hx4,hg13⟩:=bindS hg13
    refine ⟨_,rfl,_,rfl,_,⟨_,rfl,rfl⟩,_,⟨_,lk_val cB (z:=(false:Bool)) hx4,rfl⟩,?_⟩
    cases hg13
    refine ⟨_,rfl,?_⟩
    refine ⟨_,rfl,?_⟩
    obtain ⟨c6,hg15,hv2⟩:=bindS hv2
    refine Br.itf hg15 (fun hb hg15=>?_) fun hb hg15=>?_
    ·cases hg15
     refine ⟨_,rfl,?_⟩
     refine ⟨Q0,?_⟩
     cases hv2
     exact wt Q8 J4 rfl
    refine ⟨_,rfl,_,rfl,_,rfl,?_⟩
    obtain ⟨c5,hg16,hg15⟩:=bindS hg15
    refine Br.ite hg16 (fun hb hg16=>?_) fun hb hg16=>?_
    ·obtain ⟨hc1,hg16⟩:=chk_some hg16
     obtain ⟨x5,hx5,hg16⟩:=bindS hg16
     refine ⟨_,rfl,_,⟨_,rfl,rfl⟩,_,rfl,_,Or.inl ⟨hc1,rfl⟩,_,⟨_,idx_nat hx5,_,idx_row hx5,rfl⟩,_,rfl,_,⟨_,rfl,rfl⟩,_,rfl,_,⟨_,rfl,rfl⟩,_,⟨_,str_geq _ _,rfl⟩,?_⟩
     cases hg16
     refine ⟨_,rfl,?_⟩
     cases hg15
     refine ⟨_,rfl,?_⟩
     refine ⟨Q0,?_⟩
     cases hv2
     exact wt Q8 J4 rfl
    cases hg16
    refine ⟨_,rfl,?_⟩
    cases hg15
    refine ⟨_,rfl,?_⟩
    refine ⟨Q0,?_⟩
    cases hv2
    exact wt Q8 J4 rfl
   refine cn 70 (v2) rfl hB1 (fun hb hB1=>?_) fun hb hB1=>?_
   ·refine sg ?_
    refine wT [(4,vb false)] [(1000,.box [.s (mI x2.2.Tree.Nodes),vi x2.2.Tree.Next,vi x2.2.Tree.Cookie])] Q1 J1 rfl ?_
    refine rt ?_
    have hB1:=out_ret hB1 hy1
    cases hB1
    exact ⟨_,_,⟨rfl,rfl⟩,rfl,rfl,Fz.v⟩
   refine sk ?_
   refine rg ?_
   obtain ⟨hc2,hB1⟩:=chk_some hB1
   refine ⟨_,rfl,hc2.1,Nat.lt_of_le_of_lt (Nat.le_of_eq (List.length_map _)) hc2.2,_,mset_map cB x1.Cookie true s1.2.2.2.2,?_⟩
   refine wT [(0,.b 1000 0),(3,.b 3 0),(5,.m 10),(12,.s (mC p_n.Ents)),(13,vi (p_n.Ents.length:Int)),(14,vi s1.1)] [(1000,.box [.s (mI x2.2.Tree.Nodes),vi x2.2.Tree.Next,vi x2.2.Tree.Cookie]),(3,.box [vi p_n.Ino,vi p_n.Kind,vi p_n.Links,.s (mD p_n.Data),.s (mC p_n.Ents),vi p_n.Up]),(10,.mp false (List.map (fun p=>(p.1,cB p.2)) (mset x1.Cookie true s1.2.2.2.2)))] Q6 ⟨⟨_,rfl,.refl _⟩,⟨_,rfl,.refl _⟩,⟨_,rfl,.refl _⟩,Q0⟩ rfl ?_
   refine rg ?_
   obtain ⟨hc3,hB1⟩:=chk_some hB1
   refine (Or.inl ⟨hc3,?_⟩)
   exact ⟨_,sj hB1,wt Q6 J3 rfl⟩
  refine xt ?_
  have hB1:=out_ret hB1 hy1
  exact ⟨_,hB1,wt Q1 ⟨⟨_,rfl,.refl _⟩,⟨_,rfl,.refl _⟩,Q0⟩ rfl⟩
 intro v1 h
 unfold treeN34 at h
 refine sg ?_
 refine ⟨_,rfl,_,List.length_map _,fun _=>?_⟩
 refine wT [(4,vb (decide ((p_n.Ents.length:Int)≤64)))] [(1000,.box [.s (mI v1.1),vi v1.2.1,vi v1.2.2])] Q1 J1 rfl ?_
 refine rt ?_
 cases h
 exact ⟨_,_,⟨rfl,rfl⟩,rfl,rfl,Fz.v⟩
theorem w_treeN8 {self} {p_ino} {r} (h:treeN37 self p_ino=some r):PChg Tryz.prog 101 [(.b 1000 0),(vi p_ino)] (.box [(.s (mI self.Tree.Nodes)),(vi self.Tree.Next),(vi self.Tree.Cookie)]) (fun x c=>x=(.s (mB r.1))∧c=.box [(.s (mI r.2.Tree.Nodes)),(vi r.2.Tree.Next),(vi r.2.Tree.Cookie)]):=by
 refine pchg_of_ok (n:=44) (c:=Tryz.f101.body.getD .skip) Tryz.tok Tryz.func101 (by kernel_rfl) rfl rfl (Nat.le_of_ble_eq_true rfl) ?_
 unfold treeN37 at h
 refine wT [(0,.b 1000 0),(1,vi p_ino)] [(1000,.box [.s (mI self.Tree.Nodes),vi self.Tree.Next,vi self.Tree.Cookie])] Q2 J1 rfl ?_
 refine sg ?_
 refine wT [(0,.b 1000 0),(1,vi p_ino)] [(1000,.box [.s (mI self.Tree.Nodes),vi self.Tree.Next,vi self.Tree.Cookie])] Q2 J1 rfl ?_
 refine sg ?_
 refine Or.inr ?_
 refine wT [(0,.b 1000 0),(1,vi p_ino),(5,.o 9)] [(1000,.box [.s (mI self.Tree.Nodes),vi self.Tree.Next,vi self.Tree.Cookie]),(9,.own 3 1 (mB ([p_ino])))] Q3 J2 rfl ?_
 refine Ok.seqj (fun v1=>⟨Cat.tab [(5,.o 9)],[(9,.own 3 1 (mB v1.1)),(1000,.box [.s (mI v1.2.1),vi v1.2.2.1,vi v1.2.2.2])]⟩) (fun v1=>treeN41 v1=some r) ?_ ?_
 ·refine bl ?_
  refine Ok.loop (fun (s1:Int×(List api_Node)×Int×Int×(List Int))=>⟨Cat.tab [(0,.b 1000 0),(1,vi s1.1),(5,.o 9)],[(1000,.box [.s (mI s1.2.1),vi s1.2.2.1,vi s1.2.2.2.1]),(9,.own 3 1 (mB s1.2.2.2.2))]⟩) (treeN39) (s0:=(p_ino,self.Tree.Nodes,self.Tree.Next,self.Tree.Cookie,[p_ino])) h (wt Q3 ⟨⟨_,rfl,.refl _⟩,⟨_,rfl,.refl _⟩,Q0⟩ rfl) ?_
  intro s1 y1 hB1 hy1
  unfold treeN39 at hB1
  refine sq ?_
  obtain ⟨v2,hv2,hB1⟩:=bindS hB1
  refine Ok.seqw ⟨Cat.tab [(0,.b 1000 0),(1,vi s1.1),(5,.o 9),(22,vb v2)],[(1000,.box [.s (mI s1.2.1),vi s1.2.2.1,vi s1.2.2.2.1]),(9,.own 3 1 (mB s1.2.2.2.2))]⟩ ?_ ?_
  ·refine rg ?_
   obtain ⟨c1,hg1,hv2⟩:=bindS hv2
   refine Br.ite hg1 (fun hb hg1=>?_) fun hb hg1=>?_
   ·refine ⟨_,List.length_map _,fun _=>⟨_,rfl,_,List.length_map _,fun _=>?_⟩⟩
    cases hg1
    cases hv2
    exact wt Q4 J2 rfl
   cases hg1
   cases hv2
   exact wt Q4 J2 rfl
  refine cn 22 (v2) rfl hB1 (fun hb hB1=>?_) fun hb hB1=>?_
  ·refine sk ?_
   refine bl ?_
   refine sg ?_
   obtain ⟨x1,hx1,hB1⟩:=bindS hB1
   refine CallOk.chgLe (id:=1000) (w_treeN6 hx1) rfl (.box (.cons (lr) (.cons (lr) (.cons (lr) (.nil))))) rfl (.cons (Lr.b) (.cons (Lr.imm rfl) (.nil))) ?_
   rintro _ _ ⟨rfl,rfl⟩
   refine ⟨_,rfl,?_⟩
   refine wT [(0,.b 1000 0),(5,.o 9),(6,.b 6 0),(7,vb x1.1.2)] [(1000,.box [.s (mI x1.2.Tree.Nodes),vi x1.2.Tree.Next,vi x1.2.Tree.Cookie]),(9,.own 3 1 (mB s1.2.2.2.2)),(6,.box [vi x1.1.1.Ino,vi x1.1.1.Kind,vi x1.1.1.Links,.s (mD x1.1.1.Data),.s (mC x1.1.1.Ents),vi x1.1.1.Up])] Q4 J3 rfl ?_
   refine sq ?_
   obtain ⟨v3,hv3,hB1⟩:=bindS hB1
   refine Ok.seqw ⟨Cat.tab [(0,.b 1000 0),(5,.o 9),(6,.b 6 0),(35,vb v3)],[(1000,.box [.s (mI x1.2.Tree.Nodes),vi x1.2.Tree.Next,vi x1.2.Tree.Cookie]),(9,.own 3 1 (mB s1.2.2.2.2)),(6,.box [vi x1.1.1.Ino,vi x1.1.1.Kind,vi x1.1.1.Links,.s (mD x1.1.1.Data),.s (mC x1.1.1.Ents),vi x1.1.1.Up])]⟩ ?_ ?_
   ·refine rg ?_
    obtain ⟨c2,hg2,hv3⟩:=bindS hv3
    refine Br.itf hg2 (fun hb hg2=>?_) fun hb hg2=>?_
    ·cases hg2
     cases hv3
     exact wt Q4 J3 rfl
    refine ⟨_,rfl,?_⟩
    cases hg2
    cases hv3
    exact wt Q4 J3 rfl
   refine cn 35 (v3) rfl hB1 (fun hb hB1=>?_) fun hb hB1=>?_
   ·refine sg ?_
    refine wT [(4,.o 9)] [(9,.own 3 1 (mB s1.2.2.2.2)),(1000,.box [.s (mI x1.2.Tree.Nodes),vi x1.2.Tree.Next,vi x1.2.Tree.Cookie])] Q1 J2 rfl ?_
    refine rt ?_
    have hB1:=out_ret hB1 hy1
    cases hB1
    exact ⟨_,_,⟨rfl,rfl⟩,rfl,rfl,(Fz.o rfl)⟩
   refine sk ?_
   refine sg ?_
   refine ⟨_,rfl,?_⟩
   refine wT [(0,.b 1000 0),(1,vi x1.1.1.Up),(5,.o 9)] [(1000,.box [.s (mI x1.2.Tree.Nodes),vi x1.2.Tree.Next,vi x1.2.Tree.Cookie]),(9,.own 3 1 (mB s1.2.2.2.2))] Q3 J2 rfl ?_
   refine rg ?_
   obtain ⟨hc1,hB1⟩:=chk_some hB1
   refine Or.inl ⟨rowsLen_map (f:=Go.Cat.encI) (n:=1) (fun _=>rfl) ([x1.1.1.Up]),app_b2 (f:=Go.Cat.encI) (l:=s1.2.2.2.2) (l':=[x1.1.1.Up]) hc1,_,(List.map_append (f:=Go.Cat.encI) (l₁:=s1.2.2.2.2) (l₂:=[x1.1.1.Up])).symm,?_⟩
   exact ⟨_,sj hB1,wt Q3 J2 rfl⟩
  refine xt ?_
  have hB1:=out_ret hB1 hy1
  exact ⟨_,hB1,wt Q1 ⟨⟨_,rfl,.refl _⟩,⟨_,rfl,.refl _⟩,Q0⟩ rfl⟩
 intro v1 h
 unfold treeN41 at h
 refine sg ?_
 refine wT [(4,.o 9)] [(9,.own 3 1 (mB v1.1)),(1000,.box [.s (mI v1.2.1),vi v1.2.2.1,vi v1.2.2.2])] Q1 J2 rfl ?_
 refine rt ?_
 cases h
 exact ⟨_,_,⟨rfl,rfl⟩,rfl,rfl,(Fz.o rfl)⟩
theorem w_treeN5 {self} {p_n} {p_many} {p_in} {r} (h:treeN26 self p_n p_many p_in=some r):PChg Tryz.prog 69 [(.b 1000 0),(.a [(vi p_n.Ino),(vi p_n.Kind),(vi p_n.Links),(.s (mD p_n.Data)),(.s (mC p_n.Ents)),(vi p_n.Up)]),(vi p_many),(vi p_in)] (.box [(.s (mI self.Tree.Nodes)),(vi self.Tree.Next),(vi self.Tree.Cookie)]) (fun x c=>x=(vb r.1)∧c=.box [(.s (mI r.2.Tree.Nodes)),(vi r.2.Tree.Next),(vi r.2.Tree.Cookie)]):=by
 refine pchg_of_ok (n:=108) (c:=Tryz.f69.body.getD .skip) Tryz.tok Tryz.func69 (by kernel_rfl) rfl rfl (Nat.le_of_ble_eq_true rfl) ?_
 unfold treeN26 at h
 refine wT [(0,.b 1000 0),(1,.a [vi p_n.Ino,vi p_n.Kind,vi p_n.Links,.s (mD p_n.Data),.s (mC p_n.Ents),vi p_n.Up]),(2,vi p_many),(3,vi p_in)] [(1000,.box [.s (mI self.Tree.Nodes),vi self.Tree.Next,vi self.Tree.Cookie])] Q4 J1 rfl ?_
 refine sg ?_
 refine wT [(0,.b 1000 0),(2,vi p_many),(3,vi p_in),(5,.b 5 0)] [(1000,.box [.s (mI self.Tree.Nodes),vi self.Tree.Next,vi self.Tree.Cookie]),(5,.box [vi p_n.Ino,vi p_n.Kind,vi p_n.Links,.s (mD p_n.Data),.s (mC p_n.Ents),vi p_n.Up])] Q4 J2 rfl ?_
 refine sq ?_
 refine bl ?_
 refine sg ?_
 refine ⟨_,rfl,?_⟩
 refine wT [(0,.b 1000 0),(2,vi p_many),(3,vi p_in),(5,.b 5 0),(11,vb (p_n.Kind == 1))] [(1000,.box [.s (mI self.Tree.Nodes),vi self.Tree.Next,vi self.Tree.Cookie]),(5,.box [vi p_n.Ino,vi p_n.Kind,vi p_n.Links,.s (mD p_n.Data),.s (mC p_n.Ents),vi p_n.Up])] Q5 J2 rfl ?_
 refine cn 11 (p_n.Kind == 1) rfl h (fun hb h=>?_) fun hb h=>?_
 ·obtain ⟨v1,hv1,h⟩:=bindS h
  refine Ok.seqw ⟨Cat.tab [(8,vb v1)],[(1000,.box [.s (mI self.Tree.Nodes),vi self.Tree.Next,vi self.Tree.Cookie])]⟩ ?_ ?_
  ·refine rg ?_
   refine ⟨_,rfl,_,List.length_map _,fun _=>?_⟩
   obtain ⟨c1,hg1,hv1⟩:=bindS hv1
   refine Br.ite hg1 (fun hb hg1=>?_) fun hb hg1=>?_
   ·refine ⟨_,rfl,?_⟩
    cases hg1
    obtain ⟨c2,hg2,hv1⟩:=bindS hv1
    refine Br.ite hg2 (fun hb hg2=>?_) fun hb hg2=>?_
    ·refine ⟨_,rfl,_,List.length_map _,fun _=>?_⟩
     cases hg2
     obtain ⟨c3,hg3,hv1⟩:=bindS hv1
     refine Br.ite hg3 (fun hb hg3=>?_) fun hb hg3=>?_
     ·refine ⟨_,rfl,?_⟩
      cases hg3
      cases hv1
      exact wt Q1 J1 rfl
     cases hg3
     cases hv1
     exact wt Q1 J1 rfl
    cases hg2
    obtain ⟨c3,hg4,hv1⟩:=bindS hv1
    replace hg4:=iteF hg4
    cases hg4
    cases hv1
    exact wt Q1 J1 rfl
   cases hg1
   obtain ⟨c2,hg5,hv1⟩:=bindS hv1
   replace hg5:=iteF hg5
   cases hg5
   obtain ⟨c3,hg6,hv1⟩:=bindS hv1
   replace hg6:=iteF hg6
   cases hg6
   cases hv1
   exact wt Q1 J1 rfl
  refine rt ?_
  cases h
  exact ⟨_,_,⟨rfl,rfl⟩,rfl,rfl,Fz.v⟩
 obtain ⟨v2,hv2,h⟩:=bindS h
 refine Ok.seqw ⟨Cat.tab [(0,.b 1000 0),(2,vi p_many),(3,vi p_in),(5,.b 5 0),(36,vb v2.1)],[(1000,.box [.s (mI v2.2.1),vi v2.2.2.1,vi v2.2.2.2]),(5,.box [vi p_n.Ino,vi p_n.Kind,vi p_n.Links,.s (mD p_n.Data),.s (mC p_n.Ents),vi p_n.Up])]⟩ ?_ ?_
 ·refine rg ?_
  refine ⟨_,rfl,?_⟩
  obtain ⟨c4,hg7,hv2⟩:=bindS hv2
  refine Br.itf hg7 (fun hb hg7=>?_) fun hb hg7=>?_
  ·cases hg7
   obtain ⟨c5,hg8,hv2⟩:=bindS hv2
   replace hg8:=iteT hg8
   cases hg8
   cases hv2
   exact wt Q5 J2 rfl
  refine ⟨_,rfl,_,List.length_map _,fun _=>?_⟩
  cases hg7
  obtain ⟨c5,hg9,hv2⟩:=bindS hv2
  refine Br.itf hg9 (fun hb hg9=>?_) fun hb hg9=>?_
  ·cases hg9
   cases hv2
   exact wt Q5 J2 rfl
  obtain ⟨x1,hx1,hg9⟩:=bindS hg9
  refine ⟨_,rfl,?_⟩
  refine CallOk.chgLe (id:=1000) (w_treeN7 hx1) rfl (.box (.cons (lr) (.cons (lr) (.cons (lr) (.nil))))) rfl (.cons (Lr.b) (.cons (Lr.imm rfl) (.nil))) ?_
  rintro _ _ ⟨rfl,rfl⟩
  cases hg9
  cases hv2
  exact wt Q5 J2 rfl
 refine cn 36 (v2.1) rfl h (fun hb h=>?_) fun hb h=>?_
 ·refine sg ?_
  refine wT [(8,vb false)] [(1000,.box [.s (mI v2.2.1),vi v2.2.2.1,vi v2.2.2.2])] Q1 J1 rfl ?_
  refine rt ?_
  cases h
  exact ⟨_,_,⟨rfl,rfl⟩,rfl,rfl,Fz.v⟩
 refine sg ?_
 refine ⟨_,rfl,?_⟩
 refine wT [(0,.b 1000 0),(2,vi p_many),(3,vi p_in),(5,.b 5 0),(52,vb (p_n.Ino == 1))] [(1000,.box [.s (mI v2.2.1),vi v2.2.2.1,vi v2.2.2.2]),(5,.box [vi p_n.Ino,vi p_n.Kind,vi p_n.Links,.s (mD p_n.Data),.s (mC p_n.Ents),vi p_n.Up])] Q5 J2 rfl ?_
 refine cn 52 (p_n.Ino == 1) rfl h (fun hb h=>?_) fun hb h=>?_
 ·obtain ⟨v3,hv3,h⟩:=bindS h
  refine Ok.seqw ⟨Cat.tab [(8,vb v3)],[(1000,.box [.s (mI v2.2.1),vi v2.2.2.1,vi v2.2.2.2])]⟩ ?_ ?_
  ·refine rg ?_
   refine ⟨_,rfl,?_⟩
   obtain ⟨c6,hg10,hv3⟩:=bindS hv3
   refine Br.ite hg10 (fun hb hg10=>?_) fun hb hg10=>?_
   ·refine ⟨_,rfl,?_⟩
    cases hg10
    obtain ⟨c7,hg11,hv3⟩:=bindS hv3
    refine Br.ite hg11 (fun hb hg11=>?_) fun hb hg11=>?_
    ·cases hg11
     cases hv3
     exact wt Q1 J1 rfl
    cases hg11
    cases hv3
    exact wt Q1 J1 rfl
   cases hg10
   obtain ⟨c7,hg12,hv3⟩:=bindS hv3
   replace hg12:=iteF hg12
   cases hg12
   cases hv3
   exact wt Q1 J1 rfl
  refine rt ?_
  cases h
  exact ⟨_,_,⟨rfl,rfl⟩,rfl,rfl,Fz.v⟩
 obtain ⟨v4,hv4,h⟩:=bindS h
 refine Ok.seqw ⟨Cat.tab [(0,.b 1000 0),(5,.b 5 0),(68,vb v4)],[(1000,.box [.s (mI v2.2.1),vi v2.2.2.1,vi v2.2.2.2]),(5,.box [vi p_n.Ino,vi p_n.Kind,vi p_n.Links,.s (mD p_n.Data),.s (mC p_n.Ents),vi p_n.Up])]⟩ ?_ ?_
 ·refine rg ?_
  obtain ⟨c8,hg13,hv4⟩:=bindS hv4
  refine Br.itf hg13 (fun hb hg13=>?_) fun hb hg13=>?_
  ·cases hg13
   obtain ⟨c9,hg14,hv4⟩:=bindS hv4
   replace hg14:=iteT hg14
   cases hg14
   cases hv4
   exact wt Q3 J2 rfl
  refine ⟨_,rfl,?_⟩
  cases hg13
  obtain ⟨c9,hg15,hv4⟩:=bindS hv4
  refine Br.itf hg15 (fun hb hg15=>?_) fun hb hg15=>?_
  ·cases hg15
   cases hv4
   exact wt Q3 J2 rfl
  refine ⟨_,rfl,?_⟩
  cases hg15
  cases hv4
  exact wt Q3 J2 rfl
 refine cn 68 (v4) rfl h (fun hb h=>?_) fun hb h=>?_
 ·refine sg ?_
  refine wT [(8,vb false)] [(1000,.box [.s (mI v2.2.1),vi v2.2.2.1,vi v2.2.2.2])] Q1 J1 rfl ?_
  refine rt ?_
  cases h
  exact ⟨_,_,⟨rfl,rfl⟩,rfl,rfl,Fz.v⟩
 refine sk ?_
 refine sg ?_
 obtain ⟨x2,hx2,h⟩:=bindS h
 refine ⟨_,rfl,?_⟩
 refine CallOk.chgLe (id:=1000) (w_treeN8 hx2) rfl (.box (.cons (lr) (.cons (lr) (.cons (lr) (.nil))))) rfl (.cons (Lr.b) (.cons (Lr.imm rfl) (.nil))) ?_
 rintro _ _ ⟨rfl,rfl⟩
 refine wT [(5,.b 5 0),(9,.s (mB x2.1))] [(5,.box [vi p_n.Ino,vi p_n.Kind,vi p_n.Links,.s (mD p_n.Data),.s (mC p_n.Ents),vi p_n.Up]),(1000,.box [.s (mI x2.2.Tree.Nodes),vi x2.2.Tree.Next,vi x2.2.Tree.Cookie])] Q2 J2 rfl ?_
 refine sg ?_
 obtain ⟨hc1,h⟩:=chk_some h
 refine ⟨_,List.length_map _,fun _=>(Or.inl ⟨hc1,?_⟩)⟩
 refine wT [(5,.b 5 0),(9,.s (mB x2.1)),(10,vi ((x2.1.length:Int) - 1))] [(5,.box [vi p_n.Ino,vi p_n.Kind,vi p_n.Links,.s (mD p_n.Data),.s (mC p_n.Ents),vi p_n.Up]),(1000,.box [.s (mI x2.2.Tree.Nodes),vi x2.2.Tree.Next,vi x2.2.Tree.Cookie])] Q3 J2 rfl ?_
 obtain ⟨v5,hv5,h⟩:=bindS h
 refine Ok.seqw ⟨Cat.tab [(8,vb v5)],[(1000,.box [.s (mI x2.2.Tree.Nodes),vi x2.2.Tree.Next,vi x2.2.Tree.Cookie])]⟩ ?_ ?_
 ·refine rg ?_
  obtain ⟨x3,hx3,hv5⟩:=bindS hv5
  refine ⟨_,idx_nat hx3,_,idx_row hx3,_,rfl,?_⟩
  obtain ⟨c12,hg16,hv5⟩:=bindS hv5
  refine Br.ite hg16 (fun hb hg16=>?_) fun hb hg16=>?_
  ·obtain ⟨c11,hg17,hg16⟩:=bindS hg16
   refine Br.itf hg17 (fun hb hg17=>?_) fun hb hg17=>?_
   ·cases hg17
    cases hg16
    cases hv5
    exact wt Q1 J1 rfl
   obtain ⟨c10,hg18,hg17⟩:=bindS hg17
   refine Br.ite hg18 (fun hb hg18=>?_) fun hb hg18=>?_
   ·refine ⟨_,rfl,_,List.length_map _,fun _=>?_⟩
    cases hg18
    cases hg17
    cases hg16
    cases hv5
    exact wt Q1 J1 rfl
   cases hg18
   cases hg17
   cases hg16
   cases hv5
   exact wt Q1 J1 rfl
  cases hg16
  cases hv5
  exact wt Q1 J1 rfl
 refine rt ?_
 cases h
 exact ⟨_,_,⟨rfl,rfl⟩,rfl,rfl,Fz.v⟩
set_option maxHeartbeats 4000000 in
theorem w_treeN1 {p_t} {r} (h:tree_Right p_t=some r):Pure Tryz.prog 33 [(.a [(.s (mI p_t.Nodes)),(vi p_t.Next),(vi p_t.Cookie)])] (vb r):=by
 refine po Tryz.tok 148 Tryz.func33 (by kernel_rfl) rfl rfl rfl ?_
 unfold tree_Right at h
 refine wE [(0,.a [.s (mI p_t.Nodes),vi p_t.Next,vi p_t.Cookie])] Q1 ?_
 refine sg ?_
 refine wT [(1,.b 1 0)] [(1,.box [.s (mI p_t.Nodes),vi p_t.Next,vi p_t.Cookie])] Q1 J1 rfl ?_
 refine sg ?_
 refine ⟨_,rfl,?_⟩
 refine wT [(3,.b 12 0)] [(12,.box [.s (mI p_t.Nodes),vi p_t.Next,vi p_t.Cookie])] Q1 J1 rfl ?_
 refine sq ?_
 obtain ⟨v1,hv1,h⟩:=bindS h
 refine Ok.seqw ⟨Cat.tab [(3,.b 12 0),(74,vb v1)],[(12,.box [.s (mI p_t.Nodes),vi p_t.Next,vi p_t.Cookie])]⟩ ?_ ?_
 ·refine rg ?_
  refine ⟨_,rfl,_,List.length_map _,fun _=>?_⟩
  obtain ⟨c1,hg1,hv1⟩:=bindS hv1
  refine Br.itf hg1 (fun hb hg1=>?_) fun hb hg1=>?_
  ·cases hg1
   obtain ⟨c2,hg2,hv1⟩:=bindS hv1
   replace hg2:=iteT hg2
   cases hg2
   obtain ⟨c3,hg3,hv1⟩:=bindS hv1
   replace hg3:=iteT hg3
   cases hg3
   obtain ⟨c4,hg4,hv1⟩:=bindS hv1
   replace hg4:=iteT hg4
   cases hg4
   obtain ⟨c5,hg5,hv1⟩:=bindS hv1
   replace hg5:=iteT hg5
   cases hg5
   obtain ⟨c6,hg6,hv1⟩:=bindS hv1
   replace hg6:=iteT hg6
   cases hg6
   cases hv1
   exact wt Q2 J1 rfl
  refine ⟨_,rfl,_,List.length_map _,fun _=>?_⟩
  cases hg1
  obtain ⟨c2,hg7,hv1⟩:=bindS hv1
  refine Br.itf hg7 (fun hb hg7=>?_) fun hb hg7=>?_
  ·cases hg7
   obtain ⟨c3,hg8,hv1⟩:=bindS hv1
   replace hg8:=iteT hg8
   cases hg8
   obtain ⟨c4,hg9,hv1⟩:=bindS hv1
   replace hg9:=iteT hg9
   cases hg9
   obtain ⟨c5,hg10,hv1⟩:=bindS hv1
   replace hg10:=iteT hg10
   cases hg10
   obtain ⟨c6,hg11,hv1⟩:=bindS hv1
   replace hg11:=iteT hg11
   cases hg11
   cases hv1
   exact wt Q2 J1 rfl
  obtain ⟨x1,hx1,hg7⟩:=bindS hg7
  refine ⟨_,rfl,_,idx_nat hx1,_,idx_row hx1,_,rfl,?_⟩
  cases hg7
  obtain ⟨c3,hg12,hv1⟩:=bindS hv1
  refine Br.itf hg12 (fun hb hg12=>?_) fun hb hg12=>?_
  ·cases hg12
   obtain ⟨c4,hg13,hv1⟩:=bindS hv1
   replace hg13:=iteT hg13
   cases hg13
   obtain ⟨c5,hg14,hv1⟩:=bindS hv1
   replace hg14:=iteT hg14
   cases hg14
   obtain ⟨c6,hg15,hv1⟩:=bindS hv1
   replace hg15:=iteT hg15
   cases hg15
   cases hv1
   exact wt Q2 J1 rfl
  obtain ⟨x2,hx2,hg12⟩:=bindS hg12
  refine ⟨_,rfl,_,idx_nat hx2,_,idx_row hx2,_,rfl,?_⟩
  cases hg12
  obtain ⟨c4,hg16,hv1⟩:=bindS hv1
  refine Br.itf hg16 (fun hb hg16=>?_) fun hb hg16=>?_
  ·cases hg16
   obtain ⟨c5,hg17,hv1⟩:=bindS hv1
   replace hg17:=iteT hg17
   cases hg17
   obtain ⟨c6,hg18,hv1⟩:=bindS hv1
   replace hg18:=iteT hg18
   cases hg18
   cases hv1
   exact wt Q2 J1 rfl
  refine ⟨_,rfl,?_⟩
  cases hg16
  obtain ⟨c5,hg19,hv1⟩:=bindS hv1
  refine Br.itf hg19 (fun hb hg19=>?_) fun hb hg19=>?_
  ·cases hg19
   obtain ⟨c6,hg20,hv1⟩:=bindS hv1
   replace hg20:=iteT hg20
   cases hg20
   cases hv1
   exact wt Q2 J1 rfl
  refine ⟨_,rfl,?_⟩
  cases hg19
  obtain ⟨c6,hg21,hv1⟩:=bindS hv1
  refine Br.itf hg21 (fun hb hg21=>?_) fun hb hg21=>?_
  ·cases hg21
   cases hv1
   exact wt Q2 J1 rfl
  refine ⟨_,rfl,?_⟩
  cases hg21
  cases hv1
  exact wt Q2 J1 rfl
 refine cn 74 (v1) rfl h (fun hb h=>?_) fun hb h=>?_
 ·refine sg ?_
  refine wE [(2,vb false)] Q1 ?_
  refine rt ?_
  cases h
  exact Fz.v
 refine sk ?_
 refine Ok.seqj (fun v2=>⟨Cat.tab [(3,.b 12 0)],[(12,.box [.s (mI p_t.Nodes),vi p_t.Next,vi p_t.Cookie])]⟩) (fun v2=>treeN5 p_t v2=some r) ?_ ?_
 ·refine sg ?_
  refine ⟨_,rfl,_,List.length_map _,fun _=>?_⟩
  refine wT [(3,.b 12 0),(79,.s (mI p_t.Nodes)),(80,vi (p_t.Nodes.length:Int)),(81,vi (0))] [(12,.box [.s (mI p_t.Nodes),vi p_t.Next,vi p_t.Cookie])] Q4 J1 rfl ?_
  refine bl ?_
  refine Ok.loop (fun (s1:Int)=>⟨Cat.tab [(3,.b 12 0),(79,.s (mI p_t.Nodes)),(80,vi (p_t.Nodes.length:Int)),(81,vi s1)],[(12,.box [.s (mI p_t.Nodes),vi p_t.Next,vi p_t.Cookie])]⟩) (treeN1 p_t) (s0:=0) h (wt Q4 ⟨⟨_,rfl,.refl _⟩,Q0⟩ rfl) ?_
  intro s1 y1 hB1 hy1
  unfold treeN1 at hB1
  refine sg ?_
  refine wT [(3,.b 12 0),(79,.s (mI p_t.Nodes)),(80,vi (p_t.Nodes.length:Int)),(81,vi s1),(82,vb (decide (s1 < (p_t.Nodes.length:Int))))] [(12,.box [.s (mI p_t.Nodes),vi p_t.Next,vi p_t.Cookie])] Q5 J1 rfl ?_
  refine sq ?_
  refine cn 82 (decide (s1 < (p_t.Nodes.length:Int))) rfl hB1 (fun hb hB1=>?_) fun hb hB1=>?_
  ·refine sk ?_
   refine sq ?_
   refine bl ?_
   refine sg ?_
   obtain ⟨x3,hx3,hB1⟩:=bindS hB1
   refine ⟨_,idx_nat hx3,_,idx_row hx3,_,rfl,_,rfl,?_⟩
   refine wT [(3,.b 12 0),(4,vi s1),(5,.b 5 0),(79,.s (mI p_t.Nodes)),(80,vi (p_t.Nodes.length:Int)),(81,vi s1)] [(12,.box [.s (mI p_t.Nodes),vi p_t.Next,vi p_t.Cookie]),(5,.box [vi x3.Ino,vi x3.Kind,vi x3.Links,.s (mD x3.Data),.s (mC x3.Ents),vi x3.Up])] Q6 J2 rfl ?_
   obtain ⟨v3,hv3,hB1⟩:=bindS hB1
   refine Ok.seqw ⟨Cat.tab [(3,.b 12 0),(79,.s (mI p_t.Nodes)),(80,vi (p_t.Nodes.length:Int)),(81,vi s1),(118,vb v3)],[(12,.box [.s (mI p_t.Nodes),vi p_t.Next,vi p_t.Cookie])]⟩ ?_ ?_
   ·refine Ok.draw (m:=33) (MD:=⟨[]⟩) (CH:=⟨[]⟩) Tryz.tok Tryz.mixed (by kernel_rfl) ?_
    refine ⟨_,rfl,_,rfl,_,rfl,?_⟩
    obtain ⟨c7,hg22,hv3⟩:=bindS hv3
    refine Br.ite hg22 (fun hb hg22=>?_) fun hb hg22=>?_
    ·obtain ⟨hc1,hg22⟩:=chk_some hg22
     obtain ⟨x4,hx4,hg22⟩:=bindS hg22
     refine ⟨_,rfl,_,⟨_,rfl,rfl⟩,_,rfl,_,rfl,_,rfl,_,rfl,_,⟨_,rfl,rfl⟩,_,rfl,_,Or.inl ⟨hc1,rfl⟩,_,⟨_,idx_nat hx4,_,idx_row hx4,rfl⟩,_,rfl,_,⟨_,rfl,rfl⟩,_,rfl,?_⟩
     cases hg22
     refine ⟨_,rfl,?_⟩
     refine ⟨_,rfl,?_⟩
     obtain ⟨c8,hg23,hv3⟩:=bindS hv3
     refine Br.itf hg23 (fun hb hg23=>?_) fun hb hg23=>?_
     ·cases hg23
      refine ⟨_,rfl,?_⟩
      refine ⟨_,rfl,?_⟩
      obtain ⟨c9,hg24,hv3⟩:=bindS hv3
      replace hg24:=iteT hg24
      cases hg24
      refine ⟨_,rfl,?_⟩
      refine ⟨Q0,?_⟩
      cases hv3
      exact wt Q5 J1 rfl
     refine ⟨_,rfl,_,⟨_,rfl,rfl⟩,_,rfl,_,rfl,_,rfl,_,rfl,_,⟨_,rfl,rfl⟩,_,rfl,?_⟩
     cases hg23
     refine ⟨_,rfl,?_⟩
     refine ⟨_,rfl,?_⟩
     obtain ⟨c9,hg25,hv3⟩:=bindS hv3
     refine Br.itf hg25 (fun hb hg25=>?_) fun hb hg25=>?_
     ·cases hg25
      refine ⟨_,rfl,?_⟩
      refine ⟨Q0,?_⟩
      cases hv3
      exact wt Q5 J1 rfl
     refine ⟨_,rfl,_,⟨_,rfl,rfl⟩,_,⟨_,List.length_map _,fun _=>rfl⟩,_,rfl,?_⟩
     cases hg25
     refine ⟨_,rfl,?_⟩
     refine ⟨Q0,?_⟩
     cases hv3
     exact wt Q5 J1 rfl
    cases hg22
    refine ⟨_,rfl,?_⟩
    refine ⟨_,rfl,?_⟩
    obtain ⟨c8,hg26,hv3⟩:=bindS hv3
    replace hg26:=iteF hg26
    refine ⟨_,rfl,_,⟨_,rfl,rfl⟩,_,rfl,_,rfl,_,rfl,_,rfl,_,⟨_,rfl,rfl⟩,_,rfl,?_⟩
    cases hg26
    refine ⟨_,rfl,?_⟩
    refine ⟨_,rfl,?_⟩
    obtain ⟨c9,hg27,hv3⟩:=bindS hv3
    refine Br.itf hg27 (fun hb hg27=>?_) fun hb hg27=>?_
    ·cases hg27
     refine ⟨_,rfl,?_⟩
     refine ⟨Q0,?_⟩
     cases hv3
     exact wt Q5 J1 rfl
    refine ⟨_,rfl,_,⟨_,rfl,rfl⟩,_,⟨_,List.length_map _,fun _=>rfl⟩,_,rfl,?_⟩
    cases hg27
    refine ⟨_,rfl,?_⟩
    refine ⟨Q0,?_⟩
    cases hv3
    exact wt Q5 J1 rfl
   refine cn 118 (v3) rfl hB1 (fun hb hB1=>?_) fun hb hB1=>?_
   ·refine sg ?_
    refine wE [(2,vb false)] Q1 ?_
    refine rt ?_
    have hB1:=out_ret hB1 hy1
    cases hB1
    exact Fz.v
   refine sk ?_
   refine rg ?_
   obtain ⟨hc2,hB1⟩:=chk_some hB1
   refine (Or.inl ⟨hc2,?_⟩)
   exact ⟨_,sj hB1,wt Q4 J1 rfl⟩
  refine xt ?_
  have hB1:=out_ret hB1 hy1
  exact ⟨_,hB1,wt Q1 ⟨⟨_,rfl,.refl _⟩,Q0⟩ rfl⟩
 intro v2 h
 unfold treeN5 at h
 refine sg ?_
 obtain ⟨x5,hx5,h⟩:=bindS h
 refine CallOk.gen (m:=[(1000,12)]) (n:=[(10,999),(11,998)]) (wg_treeN1 hx5) (.cons (Ln.b rfl) (.nil)) ⟨⟨12,_,rfl,rfl,.box (.cons (Ln.imm rfl) (.cons (Ln.imm rfl) (.cons (Ln.imm rfl) (.nil))))⟩,Q0⟩ rfl rfl rfl ?_
 refine wT [(3,.b 12 0),(6,.m 999),(7,.m 998)] [(12,.box [.s (mI ((⟨p_t⟩:tree_grove).Tree.Nodes)),vi ((⟨p_t⟩:tree_grove).Tree.Next),vi ((⟨p_t⟩:tree_grove).Tree.Cookie)]),(999,.mp false (List.map (fun p=>(p.1,Go.Cat.encI p.2)) x5.1)),(998,.mp false (List.map (fun p=>(p.1,Go.Cat.encI p.2)) x5.2))] Q3 ⟨⟨_,rfl,.refl _⟩,⟨_,rfl,.refl _⟩,⟨_,rfl,.refl _⟩,Q0⟩ rfl ?_
 refine Ok.seqj (fun v4=>⟨Cat.tab [],[]⟩) (fun v4=>treeN7 v4=some r) ?_ ?_
 ·refine sg ?_
  refine ⟨_,rfl,_,List.length_map _,fun _=>?_⟩
  refine wT [(3,.b 12 0),(6,.m 999),(7,.m 998),(129,.s (mI ((⟨p_t⟩:tree_grove).Tree.Nodes))),(130,vi (((⟨p_t⟩:tree_grove).Tree.Nodes).length:Int)),(131,vi (0))] [(12,.box [.s (mI ((⟨p_t⟩:tree_grove).Tree.Nodes)),vi ((⟨p_t⟩:tree_grove).Tree.Next),vi ((⟨p_t⟩:tree_grove).Tree.Cookie)]),(999,.mp false (List.map (fun p=>(p.1,Go.Cat.encI p.2)) x5.1)),(998,.mp false (List.map (fun p=>(p.1,Go.Cat.encI p.2)) x5.2))] Q6 ⟨⟨_,rfl,.refl _⟩,⟨_,rfl,.refl _⟩,⟨_,rfl,.refl _⟩,Q0⟩ rfl ?_
  refine bl ?_
  refine Ok.loop (fun (s2:Int×(List api_Node)×Int×Int)=>⟨Cat.tab [(3,.b 12 0),(6,.m 999),(7,.m 998),(129,.s (mI ((⟨p_t⟩:tree_grove).Tree.Nodes))),(130,vi (((⟨p_t⟩:tree_grove).Tree.Nodes).length:Int)),(131,vi s2.1)],[(12,.box [.s (mI s2.2.1),vi s2.2.2.1,vi s2.2.2.2]),(999,.mp false (List.map (fun p=>(p.1,Go.Cat.encI p.2)) x5.1)),(998,.mp false (List.map (fun p=>(p.1,Go.Cat.encI p.2)) x5.2))]⟩) (treeN3 p_t x5) (s0:=(0,(⟨p_t⟩:tree_grove).Tree.Nodes,(⟨p_t⟩:tree_grove).Tree.Next,(⟨p_t⟩:tree_grove).Tree.Cookie)) h (wt Q6 ⟨⟨_,rfl,.refl _⟩,⟨_,rfl,.refl _⟩,⟨_,rfl,.refl _⟩,Q0⟩ rfl) ?_
  intro s2 y2 hB2 hy2
  unfold treeN3 at hB2
  refine sg ?_
  refine wT [(3,.b 12 0),(6,.m 999),(7,.m 998),(129,.s (mI ((⟨p_t⟩:tree_grove).Tree.Nodes))),(130,vi (((⟨p_t⟩:tree_grove).Tree.Nodes).length:Int)),(131,vi s2.1),(132,vb (decide (s2.1 < (((⟨p_t⟩:tree_grove).Tree.Nodes).length:Int))))] [(12,.box [.s (mI s2.2.1),vi s2.2.2.1,vi s2.2.2.2]),(999,.mp false (List.map (fun p=>(p.1,Go.Cat.encI p.2)) x5.1)),(998,.mp false (List.map (fun p=>(p.1,Go.Cat.encI p.2)) x5.2))] Q7 ⟨⟨_,rfl,.refl _⟩,⟨_,rfl,.refl _⟩,⟨_,rfl,.refl _⟩,Q0⟩ rfl ?_
  refine sq ?_
  refine cn 132 (decide (s2.1 < (((⟨p_t⟩:tree_grove).Tree.Nodes).length:Int))) rfl hB2 (fun hb hB2=>?_) fun hb hB2=>?_
  ·refine sk ?_
   refine sq ?_
   refine bl ?_
   refine sg ?_
   obtain ⟨x6,hx6,hB2⟩:=bindS hB2
   refine ⟨_,idx_nat hx6,_,idx_row hx6,_,rfl,_,rfl,?_⟩
   refine wT [(3,.b 12 0),(6,.m 999),(7,.m 998),(9,.b 9 0),(129,.s (mI ((⟨p_t⟩:tree_grove).Tree.Nodes))),(130,vi (((⟨p_t⟩:tree_grove).Tree.Nodes).length:Int)),(131,vi s2.1)] [(12,.box [.s (mI s2.2.1),vi s2.2.2.1,vi s2.2.2.2]),(999,.mp false (List.map (fun p=>(p.1,Go.Cat.encI p.2)) x5.1)),(998,.mp false (List.map (fun p=>(p.1,Go.Cat.encI p.2)) x5.2)),(9,.box [vi x6.Ino,vi x6.Kind,vi x6.Links,.s (mD x6.Data),.s (mC x6.Ents),vi x6.Up])] Q7 ⟨⟨_,rfl,.refl _⟩,⟨_,rfl,.refl _⟩,⟨_,rfl,.refl _⟩,⟨_,rfl,.refl _⟩,Q0⟩ rfl ?_
   refine sg ?_
   obtain ⟨x7,hx7,hB2⟩:=bindS hB2
   obtain ⟨x8,hx8,hB2⟩:=bindS hB2
   obtain ⟨x9,hx9,hB2⟩:=bindS hB2
   refine ⟨_,rfl,_,rfl,_,lk_val Go.Cat.encI (z:=(0:Int)) hx7,_,rfl,_,lk_val Go.Cat.encI (z:=(0:Int)) hx8,?_⟩
   refine CallOk.chgLe (id:=12) (w_treeN5 hx9) rfl (.box (.cons (lr) (.cons (lr) (.cons (lr) (.nil))))) rfl (.cons (Lr.b) (.cons (Lr.imm rfl) (.cons (Lr.imm rfl) (.cons (Lr.imm rfl) (.nil))))) ?_
   rintro _ _ ⟨rfl,rfl⟩
   refine wT [(3,.b 12 0),(6,.m 999),(7,.m 998),(129,.s (mI ((⟨p_t⟩:tree_grove).Tree.Nodes))),(130,vi (((⟨p_t⟩:tree_grove).Tree.Nodes).length:Int)),(131,vi s2.1),(146,vb (!x9.1))] [(12,.box [.s (mI x9.2.Tree.Nodes),vi x9.2.Tree.Next,vi x9.2.Tree.Cookie]),(999,.mp false (List.map (fun p=>(p.1,Go.Cat.encI p.2)) x5.1)),(998,.mp false (List.map (fun p=>(p.1,Go.Cat.encI p.2)) x5.2))] Q7 ⟨⟨_,rfl,.refl _⟩,⟨_,rfl,.refl _⟩,⟨_,rfl,.refl _⟩,Q0⟩ rfl ?_
   refine cn 146 (!x9.1) rfl hB2 (fun hb hB2=>?_) fun hb hB2=>?_
   ·refine sg ?_
    refine wE [(2,vb false)] Q1 ?_
    refine rt ?_
    have hB2:=out_ret hB2 hy2
    cases hB2
    exact Fz.v
   refine sk ?_
   refine rg ?_
   obtain ⟨hc3,hB2⟩:=chk_some hB2
   refine (Or.inl ⟨hc3,?_⟩)
   exact ⟨_,sj hB2,wt Q6 J3 rfl⟩
  refine xt ?_
  have hB2:=out_ret hB2 hy2
  exact ⟨_,hB2,wt Q0 Q0 rfl⟩
 intro v4 h
 unfold treeN7 at h
 refine sg ?_
 refine wE [(2,vb true)] Q1 ?_
 refine rt ?_
 cases h
 exact Fz.v
theorem w_shotN4 {p_x} {p_a1_0} {p_a1_1} {p_a1_2} {p_a1_3} {p_a1_4} {p_a1_5} {p_a1_6} {p_a1_7} {r} (h:shotN7 p_x p_a1_0 p_a1_1 p_a1_2 p_a1_3 p_a1_4 p_a1_5 p_a1_6 p_a1_7=some r):Pure Tryz.prog 35 [(vi p_x),(.p [(.s (mI p_a1_0)),(vi p_a1_1),(vi p_a1_2),(vi p_a1_3),(.s (mB p_a1_4)),(.s (mA p_a1_5)),(.s (mU p_a1_6)),(vi p_a1_7)])] (vb r):=by
 refine po Tryz.tok 12 Tryz.func35 (by kernel_rfl) rfl rfl rfl ?_
 unfold shotN7 at h
 refine wE [(0,vi p_x),(1,.p [.s (mI p_a1_0),vi p_a1_1,vi p_a1_2,vi p_a1_3,.s (mB p_a1_4),.s (mA p_a1_5),.s (mU p_a1_6),vi p_a1_7])] Q2 ?_
 refine sg ?_
 refine wE [(0,vi p_x),(1,.p [.s (mI p_a1_0),vi p_a1_1,vi p_a1_2,vi p_a1_3,.s (mB p_a1_4),.s (mA p_a1_5),.s (mU p_a1_6),vi p_a1_7])] Q2 ?_
 obtain ⟨v1,hv1,h⟩:=bindS h
 refine Ok.seqw ⟨Cat.tab [(3,vb v1)],[]⟩ ?_ ?_
 ·refine rg ?_
  obtain ⟨c1,hg1,hv1⟩:=bindS hv1
  refine Br.itf hg1 (fun hb hg1=>?_) fun hb hg1=>?_
  ·cases hg1
   cases hv1
   exact wt Q1 Q0 rfl
  refine ⟨_,rfl,?_⟩
  cases hg1
  cases hv1
  exact wt Q1 Q0 rfl
 refine rt ?_
 cases h
 exact Fz.v
theorem w_slicesN10 {p_s} {p_f_c0_0} {p_f_c0_1} {p_f_c0_2} {p_f_c0_3} {p_f_c0_4} {p_f_c0_5} {p_f_c0_6} {p_f_c0_7} {r} (h:slicesN51 p_s p_f_c0_0 p_f_c0_1 p_f_c0_2 p_f_c0_3 p_f_c0_4 p_f_c0_5 p_f_c0_6 p_f_c0_7=some r):Pure Tryz.prog 70 [(.s (mB p_s)),(.c (.func 35) [] [(.p [(.s (mI p_f_c0_0)),(vi p_f_c0_1),(vi p_f_c0_2),(vi p_f_c0_3),(.s (mB p_f_c0_4)),(.s (mA p_f_c0_5)),(.s (mU p_f_c0_6)),(vi p_f_c0_7)])])] (vi r):=by
 refine po Tryz.tok 19 Tryz.func70 (by kernel_rfl) rfl rfl rfl ?_
 unfold slicesN51 at h
 refine wE [(0,.s (mB p_s)),(1,.c (.func 35) [] [.p [.s (mI p_f_c0_0),vi p_f_c0_1,vi p_f_c0_2,vi p_f_c0_3,.s (mB p_f_c0_4),.s (mA p_f_c0_5),.s (mU p_f_c0_6),vi p_f_c0_7]])] Q2 ?_
 refine sg ?_
 refine wE [(0,.s (mB p_s)),(1,.c (.func 35) [] [.p [.s (mI p_f_c0_0),vi p_f_c0_1,vi p_f_c0_2,vi p_f_c0_3,.s (mB p_f_c0_4),.s (mA p_f_c0_5),.s (mU p_f_c0_6),vi p_f_c0_7]])] Q2 ?_
 refine Ok.seqj (fun v1=>⟨Cat.tab [],[]⟩) (fun v1=>slicesN55 v1=some r) ?_ ?_
 ·refine sg ?_
  refine ⟨_,List.length_map _,fun _=>?_⟩
  refine wE [(0,.s (mB p_s)),(1,.c (.func 35) [] [.p [.s (mI p_f_c0_0),vi p_f_c0_1,vi p_f_c0_2,vi p_f_c0_3,.s (mB p_f_c0_4),.s (mA p_f_c0_5),.s (mU p_f_c0_6),vi p_f_c0_7]]),(7,vi (p_s.length:Int)),(8,vi (0))] Q4 ?_
  refine bl ?_
  refine Ok.loop (fun (s1:Int)=>⟨Cat.tab [(0,.s (mB p_s)),(1,.c (.func 35) [] [.p [.s (mI p_f_c0_0),vi p_f_c0_1,vi p_f_c0_2,vi p_f_c0_3,.s (mB p_f_c0_4),.s (mA p_f_c0_5),.s (mU p_f_c0_6),vi p_f_c0_7]]),(7,vi (p_s.length:Int)),(8,vi s1)],[]⟩) (slicesN53 p_s p_f_c0_0 p_f_c0_1 p_f_c0_2 p_f_c0_3 p_f_c0_4 p_f_c0_5 p_f_c0_6 p_f_c0_7) (s0:=0) h (wt Q4 Q0 rfl) ?_
  intro s1 y1 hB1 hy1
  unfold slicesN53 at hB1
  refine sg ?_
  refine wE [(0,.s (mB p_s)),(1,.c (.func 35) [] [.p [.s (mI p_f_c0_0),vi p_f_c0_1,vi p_f_c0_2,vi p_f_c0_3,.s (mB p_f_c0_4),.s (mA p_f_c0_5),.s (mU p_f_c0_6),vi p_f_c0_7]]),(7,vi (p_s.length:Int)),(8,vi s1),(9,vb (decide (s1 < (p_s.length:Int))))] Q5 ?_
  refine sq ?_
  refine cn 9 (decide (s1 < (p_s.length:Int))) rfl hB1 (fun hb hB1=>?_) fun hb hB1=>?_
  ·refine sk ?_
   refine sq ?_
   refine bl ?_
   refine sg ?_
   refine wE [(0,.s (mB p_s)),(1,.c (.func 35) [] [.p [.s (mI p_f_c0_0),vi p_f_c0_1,vi p_f_c0_2,vi p_f_c0_3,.s (mB p_f_c0_4),.s (mA p_f_c0_5),.s (mU p_f_c0_6),vi p_f_c0_7]]),(5,vi s1),(7,vi (p_s.length:Int)),(8,vi s1)] Q5 ?_
   refine sg ?_
   obtain ⟨x1,hx1,hB1⟩:=bindS hB1
   obtain ⟨x2,hx2,hB1⟩:=bindS hB1
   refine ⟨_,idx_nat hx1,_,idx_row hx1,_,rfl,?_⟩
   refine CallOk.call (w_shotN4 hx2) (LeL.refl _) ?_
   refine wE [(0,.s (mB p_s)),(1,.c (.func 35) [] [.p [.s (mI p_f_c0_0),vi p_f_c0_1,vi p_f_c0_2,vi p_f_c0_3,.s (mB p_f_c0_4),.s (mA p_f_c0_5),.s (mU p_f_c0_6),vi p_f_c0_7]]),(5,vi s1),(7,vi (p_s.length:Int)),(8,vi s1),(16,vb x2)] Q6 ?_
   refine cn 16 (x2) rfl hB1 (fun hb hB1=>?_) fun hb hB1=>?_
   ·refine sg ?_
    refine wE [(4,vi s1)] Q1 ?_
    refine rt ?_
    have hB1:=out_ret hB1 hy1
    cases hB1
    exact Fz.v
   refine sk ?_
   refine rg ?_
   obtain ⟨hc1,hB1⟩:=chk_some hB1
   refine (Or.inl ⟨hc1,?_⟩)
   exact ⟨_,sj hB1,wt Q4 Q0 rfl⟩
  refine xt ?_
  have hB1:=out_ret hB1 hy1
  exact ⟨_,hB1,wt Q0 Q0 rfl⟩
 intro v1 h
 unfold slicesN55 at h
 refine sg ?_
 refine wE [(4,vi (-1))] Q1 ?_
 refine rt ?_
 cases h
 exact Fz.v
theorem w_slicesN5 {p_s} {p_f_c0} {r} (h:slicesN21 p_s p_f_c0=some r):Pure Tryz.prog 34 [(.s (mB p_s)),(.c (.func 35) [] [(.p [(.s (mI p_f_c0.Now.Nodes)),(vi p_f_c0.Now.Next),(vi p_f_c0.Now.Cookie),(vi p_f_c0.Tick),(.s (mB p_f_c0.Since)),(.s (mA p_f_c0.Pasts)),(.s (mU p_f_c0.Taken)),(vi p_f_c0.Next)])])] (vb r):=by
 refine po Tryz.tok 9 Tryz.func34 (by kernel_rfl) rfl rfl rfl ?_
 unfold slicesN21 at h
 refine wE [(0,.s (mB p_s)),(1,.c (.func 35) [] [.p [.s (mI p_f_c0.Now.Nodes),vi p_f_c0.Now.Next,vi p_f_c0.Now.Cookie,vi p_f_c0.Tick,.s (mB p_f_c0.Since),.s (mA p_f_c0.Pasts),.s (mU p_f_c0.Taken),vi p_f_c0.Next]])] Q2 ?_
 refine sg ?_
 refine wE [(0,.s (mB p_s)),(1,.c (.func 35) [] [.p [.s (mI p_f_c0.Now.Nodes),vi p_f_c0.Now.Next,vi p_f_c0.Now.Cookie,vi p_f_c0.Tick,.s (mB p_f_c0.Since),.s (mA p_f_c0.Pasts),.s (mU p_f_c0.Taken),vi p_f_c0.Next]])] Q2 ?_
 refine sg ?_
 obtain ⟨x1,hx1,h⟩:=bindS h
 refine CallOk.call (w_slicesN10 hx1) (LeL.refl _) ?_
 refine wE [(4,vb (decide (x1≥0)))] Q1 ?_
 refine rt ?_
 cases h
 exact Fz.v
theorem w_shotN10 {p_s} {r} (h:shot_taken p_s=some r):Pure Tryz.prog 36 [(.a [(.s (mI p_s.Now.Nodes)),(vi p_s.Now.Next),(vi p_s.Now.Cookie),(vi p_s.Tick),(.s (mB p_s.Since)),(.s (mA p_s.Pasts)),(.s (mU p_s.Taken)),(vi p_s.Next)])] (vb r):=by
 refine po Tryz.tok 66 Tryz.func36 (by kernel_rfl) rfl rfl rfl ?_
 unfold shot_taken at h
 refine wE [(0,.a [.s (mI p_s.Now.Nodes),vi p_s.Now.Next,vi p_s.Now.Cookie,vi p_s.Tick,.s (mB p_s.Since),.s (mA p_s.Pasts),.s (mU p_s.Taken),vi p_s.Next])] Q1 ?_
 refine sg ?_
 refine wT [(1,.b 1 0)] [(1,.box [.s (mI p_s.Now.Nodes),vi p_s.Now.Next,vi p_s.Now.Cookie,vi p_s.Tick,.s (mB p_s.Since),.s (mA p_s.Pasts),.s (mU p_s.Taken),vi p_s.Next])] Q1 J1 rfl ?_
 refine Ok.seqj (fun v1=>⟨Cat.tab [(1,.b 1 0)],[(1,.box [.s (mI p_s.Now.Nodes),vi p_s.Now.Next,vi p_s.Now.Cookie,vi p_s.Tick,.s (mB p_s.Since),.s (mA p_s.Pasts),.s (mU p_s.Taken),vi p_s.Next])]⟩) (fun v1=>shotN49 p_s v1=some r) ?_ ?_
 ·refine sg ?_
  refine ⟨_,rfl,_,List.length_map _,fun _=>?_⟩
  refine wT [(1,.b 1 0),(6,.s (mU p_s.Taken)),(7,vi (p_s.Taken.length:Int)),(8,vi (0))] [(1,.box [.s (mI p_s.Now.Nodes),vi p_s.Now.Next,vi p_s.Now.Cookie,vi p_s.Tick,.s (mB p_s.Since),.s (mA p_s.Pasts),.s (mU p_s.Taken),vi p_s.Next])] Q4 J1 rfl ?_
  refine bl ?_
  refine Ok.loop (fun (s1:Int)=>⟨Cat.tab [(1,.b 1 0),(6,.s (mU p_s.Taken)),(7,vi (p_s.Taken.length:Int)),(8,vi s1)],[(1,.box [.s (mI p_s.Now.Nodes),vi p_s.Now.Next,vi p_s.Now.Cookie,vi p_s.Tick,.s (mB p_s.Since),.s (mA p_s.Pasts),.s (mU p_s.Taken),vi p_s.Next])]⟩) (shotN47 p_s) (s0:=0) h (wt Q4 ⟨⟨_,rfl,.refl _⟩,Q0⟩ rfl) ?_
  intro s1 y1 hB1 hy1
  unfold shotN47 at hB1
  refine sg ?_
  refine wT [(1,.b 1 0),(6,.s (mU p_s.Taken)),(7,vi (p_s.Taken.length:Int)),(8,vi s1),(9,vb (decide (s1 < (p_s.Taken.length:Int))))] [(1,.box [.s (mI p_s.Now.Nodes),vi p_s.Now.Next,vi p_s.Now.Cookie,vi p_s.Tick,.s (mB p_s.Since),.s (mA p_s.Pasts),.s (mU p_s.Taken),vi p_s.Next])] Q5 J1 rfl ?_
  refine sq ?_
  refine cn 9 (decide (s1 < (p_s.Taken.length:Int))) rfl hB1 (fun hb hB1=>?_) fun hb hB1=>?_
  ·refine sk ?_
   refine sq ?_
   refine bl ?_
   refine sg ?_
   obtain ⟨x1,hx1,hB1⟩:=bindS hB1
   refine ⟨_,idx_nat hx1,_,idx_row hx1,_,rfl,_,rfl,?_⟩
   refine wT [(1,.b 1 0),(3,vi s1),(4,.b 4 0),(6,.s (mU p_s.Taken)),(7,vi (p_s.Taken.length:Int)),(8,vi s1)] [(1,.box [.s (mI p_s.Now.Nodes),vi p_s.Now.Next,vi p_s.Now.Cookie,vi p_s.Tick,.s (mB p_s.Since),.s (mA p_s.Pasts),.s (mU p_s.Taken),vi p_s.Next]),(4,.box [vi x1.Id,vi x1.Ino,vi x1.At])] Q6 J2 rfl ?_
   refine sq ?_
   obtain ⟨v2,hv2,hB1⟩:=bindS hB1
   refine Ok.seqw ⟨Cat.tab [(1,.b 1 0),(3,vi s1),(4,.b 4 0),(6,.s (mU p_s.Taken)),(7,vi (p_s.Taken.length:Int)),(8,vi s1),(34,vb v2)],[(1,.box [.s (mI p_s.Now.Nodes),vi p_s.Now.Next,vi p_s.Now.Cookie,vi p_s.Tick,.s (mB p_s.Since),.s (mA p_s.Pasts),.s (mU p_s.Taken),vi p_s.Next]),(4,.box [vi x1.Id,vi x1.Ino,vi x1.At])]⟩ ?_ ?_
   ·refine rg ?_
    refine ⟨_,rfl,?_⟩
    obtain ⟨c1,hg1,hv2⟩:=bindS hv2
    refine Br.itf hg1 (fun hb hg1=>?_) fun hb hg1=>?_
    ·cases hg1
     obtain ⟨c2,hg2,hv2⟩:=bindS hv2
     replace hg2:=iteT hg2
     cases hg2
     obtain ⟨c3,hg3,hv2⟩:=bindS hv2
     replace hg3:=iteT hg3
     cases hg3
     cases hv2
     exact wt Q7 J2 rfl
    refine ⟨_,rfl,_,rfl,?_⟩
    cases hg1
    obtain ⟨c2,hg4,hv2⟩:=bindS hv2
    refine Br.itf hg4 (fun hb hg4=>?_) fun hb hg4=>?_
    ·cases hg4
     obtain ⟨c3,hg5,hv2⟩:=bindS hv2
     replace hg5:=iteT hg5
     cases hg5
     cases hv2
     exact wt Q7 J2 rfl
    refine ⟨_,rfl,?_⟩
    cases hg4
    obtain ⟨c3,hg6,hv2⟩:=bindS hv2
    refine Br.itf hg6 (fun hb hg6=>?_) fun hb hg6=>?_
    ·cases hg6
     cases hv2
     exact wt Q7 J2 rfl
    refine ⟨_,rfl,_,rfl,?_⟩
    cases hg6
    cases hv2
    exact wt Q7 J2 rfl
   refine cn 34 (v2) rfl hB1 (fun hb hB1=>?_) fun hb hB1=>?_
   ·refine sg ?_
    refine wE [(2,vb false)] Q1 ?_
    refine rt ?_
    have hB1:=out_ret hB1 hy1
    cases hB1
    exact Fz.v
   refine sk ?_
   obtain ⟨v3,hv3,hB1⟩:=bindS hB1
   refine Ok.seqw ⟨Cat.tab [(1,.b 1 0),(6,.s (mU p_s.Taken)),(7,vi (p_s.Taken.length:Int)),(8,vi s1),(60,vb v3)],[(1,.box [.s (mI p_s.Now.Nodes),vi p_s.Now.Next,vi p_s.Now.Cookie,vi p_s.Tick,.s (mB p_s.Since),.s (mA p_s.Pasts),.s (mU p_s.Taken),vi p_s.Next])]⟩ ?_ ?_
   ·refine Ok.draw (m:=26) (MD:=⟨[]⟩) (CH:=⟨[]⟩) Tryz.tok Tryz.mixed (by kernel_rfl) ?_
    refine ⟨_,rfl,_,rfl,_,rfl,?_⟩
    obtain ⟨c5,hg7,hv3⟩:=bindS hv3
    refine Br.ite hg7 (fun hb hg7=>?_) fun hb hg7=>?_
    ·obtain ⟨hc1,hg7⟩:=chk_some hg7
     obtain ⟨x2,hx2,hg7⟩:=bindS hg7
     refine ⟨_,rfl,_,⟨_,rfl,rfl⟩,_,rfl,_,Or.inl ⟨hc1,rfl⟩,_,⟨_,idx_nat hx2,_,idx_row hx2,rfl⟩,_,rfl,_,⟨_,rfl,rfl⟩,_,rfl,_,⟨_,rfl,rfl⟩,_,rfl,_,rfl,?_⟩
     obtain ⟨c4,hg8,hg7⟩:=bindS hg7
     refine Br.itf hg8 (fun hb hg8=>?_) fun hb hg8=>?_
     ·cases hg8
      refine ⟨_,rfl,?_⟩
      cases hg7
      refine ⟨_,rfl,?_⟩
      refine ⟨Q0,?_⟩
      cases hv3
      exact wt Q5 J1 rfl
     obtain ⟨hc2,hg8⟩:=chk_some hg8
     obtain ⟨x3,hx3,hg8⟩:=bindS hg8
     refine ⟨_,rfl,_,⟨_,rfl,rfl⟩,_,rfl,_,Or.inl ⟨hc2,rfl⟩,_,⟨_,idx_nat hx3,_,idx_row hx3,rfl⟩,_,rfl,_,⟨_,rfl,rfl⟩,_,rfl,_,⟨_,rfl,rfl⟩,_,rfl,?_⟩
     cases hg8
     refine ⟨_,rfl,?_⟩
     cases hg7
     refine ⟨_,rfl,?_⟩
     refine ⟨Q0,?_⟩
     cases hv3
     exact wt Q5 J1 rfl
    cases hg7
    refine ⟨_,rfl,?_⟩
    refine ⟨Q0,?_⟩
    cases hv3
    exact wt Q5 J1 rfl
   refine cn 60 (v3) rfl hB1 (fun hb hB1=>?_) fun hb hB1=>?_
   ·refine sg ?_
    refine wE [(2,vb false)] Q1 ?_
    refine rt ?_
    have hB1:=out_ret hB1 hy1
    cases hB1
    exact Fz.v
   refine sk ?_
   refine rg ?_
   obtain ⟨hc3,hB1⟩:=chk_some hB1
   refine (Or.inl ⟨hc3,?_⟩)
   exact ⟨_,sj hB1,wt Q4 J1 rfl⟩
  refine xt ?_
  have hB1:=out_ret hB1 hy1
  exact ⟨_,hB1,wt Q1 ⟨⟨_,rfl,.refl _⟩,Q0⟩ rfl⟩
 intro v1 h
 unfold shotN49 at h
 refine sg ?_
 refine ⟨_,rfl,_,List.length_map _,fun _=>?_⟩
 refine wE [(2,vb (decide ((p_s.Taken.length:Int)≤16)))] Q1 ?_
 refine rt ?_
 cases h
 exact Fz.v
theorem w_cmpN2 {p_vals} {r} (h:cmp_Or_int p_vals=some r):Pure Tryz.prog 71 [(.s (mB p_vals))] (vi r):=by
 refine po Tryz.tok 18 Tryz.func71 (by kernel_rfl) rfl rfl rfl ?_
 unfold cmp_Or_int at h
 refine wE [(0,.s (mB p_vals))] Q1 ?_
 refine sg ?_
 refine wE [(0,.s (mB p_vals))] Q1 ?_
 refine sg ?_
 refine wE [(0,.s (mB p_vals)),(3,vi (0))] Q2 ?_
 refine Ok.seqj (fun v1=>⟨Cat.tab [(3,vi (0))],[]⟩) (fun v1=>cmpN4 v1=some r) ?_ ?_
 ·refine sg ?_
  refine ⟨_,List.length_map _,fun _=>?_⟩
  refine wE [(3,vi (0)),(6,.s (mB p_vals)),(7,vi (p_vals.length:Int)),(8,vi (0))] Q4 ?_
  refine bl ?_
  refine Ok.loop (fun (s1:Int)=>⟨Cat.tab [(3,vi (0)),(6,.s (mB p_vals)),(7,vi (p_vals.length:Int)),(8,vi s1)],[]⟩) (cmpN2 p_vals) (s0:=0) h (wt Q4 Q0 rfl) ?_
  intro s1 y1 hB1 hy1
  unfold cmpN2 at hB1
  refine sg ?_
  refine wE [(3,vi (0)),(6,.s (mB p_vals)),(7,vi (p_vals.length:Int)),(8,vi s1),(9,vb (decide (s1 < (p_vals.length:Int))))] Q5 ?_
  refine sq ?_
  refine cn 9 (decide (s1 < (p_vals.length:Int))) rfl hB1 (fun hb hB1=>?_) fun hb hB1=>?_
  ·refine sk ?_
   refine sq ?_
   refine bl ?_
   refine sg ?_
   obtain ⟨x1,hx1,hB1⟩:=bindS hB1
   refine ⟨_,idx_nat hx1,_,idx_row hx1,_,rfl,?_⟩
   refine wE [(3,vi (0)),(5,vi x1),(6,.s (mB p_vals)),(7,vi (p_vals.length:Int)),(8,vi s1)] Q5 ?_
   refine sg ?_
   refine wE [(3,vi (0)),(5,vi x1),(6,.s (mB p_vals)),(7,vi (p_vals.length:Int)),(8,vi s1),(14,vb (x1 != 0))] Q6 ?_
   refine cn 14 (x1 != 0) rfl hB1 (fun hb hB1=>?_) fun hb hB1=>?_
   ·refine sg ?_
    refine wE [(2,vi x1)] Q1 ?_
    refine rt ?_
    have hB1:=out_ret hB1 hy1
    cases hB1
    exact Fz.v
   refine sk ?_
   refine rg ?_
   obtain ⟨hc1,hB1⟩:=chk_some hB1
   refine (Or.inl ⟨hc1,?_⟩)
   exact ⟨_,sj hB1,wt Q4 Q0 rfl⟩
  refine xt ?_
  have hB1:=out_ret hB1 hy1
  exact ⟨_,hB1,wt Q1 Q0 rfl⟩
 intro v1 h
 unfold cmpN4 at h
 refine sg ?_
 refine wE [(2,vi (0))] Q1 ?_
 refine rt ?_
 cases h
 exact Fz.v
theorem w_shotN8 {p_q} {p_a1_0} {p_a1_1} {p_a1_2} {p_a1_3} {p_a1_4} {p_a1_5} {p_a1_6} {p_a1_7} {r} (h:shotN29 p_q p_a1_0 p_a1_1 p_a1_2 p_a1_3 p_a1_4 p_a1_5 p_a1_6 p_a1_7=some r):Pure Tryz.prog 73 [(.a [(vi p_q.From),(vi p_q.Till),(vi p_q.Node.Ino),(vi p_q.Node.Kind),(vi p_q.Node.Links),(.s (mD p_q.Node.Data)),(.s (mC p_q.Node.Ents)),(vi p_q.Node.Up)]),(.p [(vi p_a1_0),(vi p_a1_1),(vi p_a1_2),(vi p_a1_3),(vi p_a1_4),(.s (mD p_a1_5)),(.s (mC p_a1_6)),(vi p_a1_7)])] (vb r):=by
 refine po Tryz.tok 25 Tryz.func73 (by kernel_rfl) rfl rfl rfl ?_
 unfold shotN29 at h
 refine wE [(0,.a [vi p_q.From,vi p_q.Till,vi p_q.Node.Ino,vi p_q.Node.Kind,vi p_q.Node.Links,.s (mD p_q.Node.Data),.s (mC p_q.Node.Ents),vi p_q.Node.Up]),(1,.p [vi p_a1_0,vi p_a1_1,vi p_a1_2,vi p_a1_3,vi p_a1_4,.s (mD p_a1_5),.s (mC p_a1_6),vi p_a1_7])] Q2 ?_
 refine sg ?_
 refine wT [(1,.p [vi p_a1_0,vi p_a1_1,vi p_a1_2,vi p_a1_3,vi p_a1_4,.s (mD p_a1_5),.s (mC p_a1_6),vi p_a1_7]),(2,.b 2 0)] [(2,.box [vi p_q.From,vi p_q.Till,vi p_q.Node.Ino,vi p_q.Node.Kind,vi p_q.Node.Links,.s (mD p_q.Node.Data),.s (mC p_q.Node.Ents),vi p_q.Node.Up])] Q2 J1 rfl ?_
 obtain ⟨v1,hv1,h⟩:=bindS h
 refine Ok.seqw ⟨Cat.tab [(3,vb v1)],[]⟩ ?_ ?_
 ·refine rg ?_
  refine ⟨_,rfl,_,rfl,?_⟩
  obtain ⟨c1,hg1,hv1⟩:=bindS hv1
  refine Br.ite hg1 (fun hb hg1=>?_) fun hb hg1=>?_
  ·refine ⟨_,rfl,_,rfl,?_⟩
   cases hg1
   obtain ⟨c2,hg2,hv1⟩:=bindS hv1
   refine Br.ite hg2 (fun hb hg2=>?_) fun hb hg2=>?_
   ·refine ⟨_,rfl,_,rfl,?_⟩
    cases hg2
    cases hv1
    exact wt Q1 Q0 rfl
   cases hg2
   cases hv1
   exact wt Q1 Q0 rfl
  cases hg1
  obtain ⟨c2,hg3,hv1⟩:=bindS hv1
  replace hg3:=iteF hg3
  cases hg3
  cases hv1
  exact wt Q1 Q0 rfl
 refine rt ?_
 cases h
 exact Fz.v
theorem w_slicesN8 {p_s} {p_f_c0_0} {p_f_c0_1} {p_f_c0_2} {p_f_c0_3} {p_f_c0_4} {p_f_c0_5} {p_f_c0_6} {p_f_c0_7} {r} (h:slicesN37 p_s p_f_c0_0 p_f_c0_1 p_f_c0_2 p_f_c0_3 p_f_c0_4 p_f_c0_5 p_f_c0_6 p_f_c0_7=some r):Pure Tryz.prog 103 [(.s (mA p_s)),(.c (.func 73) [] [(.p [(vi p_f_c0_0),(vi p_f_c0_1),(vi p_f_c0_2),(vi p_f_c0_3),(vi p_f_c0_4),(.s (mD p_f_c0_5)),(.s (mC p_f_c0_6)),(vi p_f_c0_7)])])] (vi r):=by
 refine po Tryz.tok 19 Tryz.func103 (by kernel_rfl) rfl rfl rfl ?_
 unfold slicesN37 at h
 refine wE [(0,.s (mA p_s)),(1,.c (.func 73) [] [.p [vi p_f_c0_0,vi p_f_c0_1,vi p_f_c0_2,vi p_f_c0_3,vi p_f_c0_4,.s (mD p_f_c0_5),.s (mC p_f_c0_6),vi p_f_c0_7]])] Q2 ?_
 refine sg ?_
 refine wE [(0,.s (mA p_s)),(1,.c (.func 73) [] [.p [vi p_f_c0_0,vi p_f_c0_1,vi p_f_c0_2,vi p_f_c0_3,vi p_f_c0_4,.s (mD p_f_c0_5),.s (mC p_f_c0_6),vi p_f_c0_7]])] Q2 ?_
 refine Ok.seqj (fun v1=>⟨Cat.tab [],[]⟩) (fun v1=>slicesN41 v1=some r) ?_ ?_
 ·refine sg ?_
  refine ⟨_,List.length_map _,fun _=>?_⟩
  refine wE [(0,.s (mA p_s)),(1,.c (.func 73) [] [.p [vi p_f_c0_0,vi p_f_c0_1,vi p_f_c0_2,vi p_f_c0_3,vi p_f_c0_4,.s (mD p_f_c0_5),.s (mC p_f_c0_6),vi p_f_c0_7]]),(7,vi (p_s.length:Int)),(8,vi (0))] Q4 ?_
  refine bl ?_
  refine Ok.loop (fun (s1:Int)=>⟨Cat.tab [(0,.s (mA p_s)),(1,.c (.func 73) [] [.p [vi p_f_c0_0,vi p_f_c0_1,vi p_f_c0_2,vi p_f_c0_3,vi p_f_c0_4,.s (mD p_f_c0_5),.s (mC p_f_c0_6),vi p_f_c0_7]]),(7,vi (p_s.length:Int)),(8,vi s1)],[]⟩) (slicesN39 p_s p_f_c0_0 p_f_c0_1 p_f_c0_2 p_f_c0_3 p_f_c0_4 p_f_c0_5 p_f_c0_6 p_f_c0_7) (s0:=0) h (wt Q4 Q0 rfl) ?_
  intro s1 y1 hB1 hy1
  unfold slicesN39 at hB1
  refine sg ?_
  refine wE [(0,.s (mA p_s)),(1,.c (.func 73) [] [.p [vi p_f_c0_0,vi p_f_c0_1,vi p_f_c0_2,vi p_f_c0_3,vi p_f_c0_4,.s (mD p_f_c0_5),.s (mC p_f_c0_6),vi p_f_c0_7]]),(7,vi (p_s.length:Int)),(8,vi s1),(9,vb (decide (s1 < (p_s.length:Int))))] Q5 ?_
  refine sq ?_
  refine cn 9 (decide (s1 < (p_s.length:Int))) rfl hB1 (fun hb hB1=>?_) fun hb hB1=>?_
  ·refine sk ?_
   refine sq ?_
   refine bl ?_
   refine sg ?_
   refine wE [(0,.s (mA p_s)),(1,.c (.func 73) [] [.p [vi p_f_c0_0,vi p_f_c0_1,vi p_f_c0_2,vi p_f_c0_3,vi p_f_c0_4,.s (mD p_f_c0_5),.s (mC p_f_c0_6),vi p_f_c0_7]]),(5,vi s1),(7,vi (p_s.length:Int)),(8,vi s1)] Q5 ?_
   refine sg ?_
   obtain ⟨x1,hx1,hB1⟩:=bindS hB1
   obtain ⟨x2,hx2,hB1⟩:=bindS hB1
   refine ⟨_,idx_nat hx1,_,idx_row hx1,_,rfl,?_⟩
   refine CallOk.call (w_shotN8 hx2) (LeL.refl _) ?_
   refine wE [(0,.s (mA p_s)),(1,.c (.func 73) [] [.p [vi p_f_c0_0,vi p_f_c0_1,vi p_f_c0_2,vi p_f_c0_3,vi p_f_c0_4,.s (mD p_f_c0_5),.s (mC p_f_c0_6),vi p_f_c0_7]]),(5,vi s1),(7,vi (p_s.length:Int)),(8,vi s1),(16,vb x2)] Q6 ?_
   refine cn 16 (x2) rfl hB1 (fun hb hB1=>?_) fun hb hB1=>?_
   ·refine sg ?_
    refine wE [(4,vi s1)] Q1 ?_
    refine rt ?_
    have hB1:=out_ret hB1 hy1
    cases hB1
    exact Fz.v
   refine sk ?_
   refine rg ?_
   obtain ⟨hc1,hB1⟩:=chk_some hB1
   refine (Or.inl ⟨hc1,?_⟩)
   exact ⟨_,sj hB1,wt Q4 Q0 rfl⟩
  refine xt ?_
  have hB1:=out_ret hB1 hy1
  exact ⟨_,hB1,wt Q0 Q0 rfl⟩
 intro v1 h
 unfold slicesN41 at h
 refine sg ?_
 refine wE [(4,vi (-1))] Q1 ?_
 refine rt ?_
 cases h
 exact Fz.v
theorem w_slicesN3 {p_s} {p_f_c0} {r} (h:slicesN17 p_s p_f_c0=some r):Pure Tryz.prog 74 [(.s (mA p_s)),(.c (.func 73) [] [(.p [(vi p_f_c0.From),(vi p_f_c0.Till),(vi p_f_c0.Node.Ino),(vi p_f_c0.Node.Kind),(vi p_f_c0.Node.Links),(.s (mD p_f_c0.Node.Data)),(.s (mC p_f_c0.Node.Ents)),(vi p_f_c0.Node.Up)])])] (vb r):=by
 refine po Tryz.tok 9 Tryz.func74 (by kernel_rfl) rfl rfl rfl ?_
 unfold slicesN17 at h
 refine wE [(0,.s (mA p_s)),(1,.c (.func 73) [] [.p [vi p_f_c0.From,vi p_f_c0.Till,vi p_f_c0.Node.Ino,vi p_f_c0.Node.Kind,vi p_f_c0.Node.Links,.s (mD p_f_c0.Node.Data),.s (mC p_f_c0.Node.Ents),vi p_f_c0.Node.Up]])] Q2 ?_
 refine sg ?_
 refine wE [(0,.s (mA p_s)),(1,.c (.func 73) [] [.p [vi p_f_c0.From,vi p_f_c0.Till,vi p_f_c0.Node.Ino,vi p_f_c0.Node.Kind,vi p_f_c0.Node.Links,.s (mD p_f_c0.Node.Data),.s (mC p_f_c0.Node.Ents),vi p_f_c0.Node.Up]])] Q2 ?_
 refine sg ?_
 obtain ⟨x1,hx1,h⟩:=bindS h
 refine CallOk.call (w_slicesN8 hx1) (LeL.refl _) ?_
 refine wE [(4,vb (decide (x1≥0)))] Q1 ?_
 refine rt ?_
 cases h
 exact Fz.v
theorem w_shotN7 {p_s} {r} (h:shot_pasts p_s=some r):Pure Tryz.prog 37 [(.a [(.s (mI p_s.Now.Nodes)),(vi p_s.Now.Next),(vi p_s.Now.Cookie),(vi p_s.Tick),(.s (mB p_s.Since)),(.s (mA p_s.Pasts)),(.s (mU p_s.Taken)),(vi p_s.Next)])] (vb r):=by
 refine po Tryz.tok 98 Tryz.func37 (by kernel_rfl) rfl rfl rfl ?_
 unfold shot_pasts at h
 refine wE [(0,.a [.s (mI p_s.Now.Nodes),vi p_s.Now.Next,vi p_s.Now.Cookie,vi p_s.Tick,.s (mB p_s.Since),.s (mA p_s.Pasts),.s (mU p_s.Taken),vi p_s.Next])] Q1 ?_
 refine sg ?_
 refine wT [(1,.b 1 0)] [(1,.box [.s (mI p_s.Now.Nodes),vi p_s.Now.Next,vi p_s.Now.Cookie,vi p_s.Tick,.s (mB p_s.Since),.s (mA p_s.Pasts),.s (mU p_s.Taken),vi p_s.Next])] Q1 J1 rfl ?_
 refine Ok.seqj (fun v1=>⟨Cat.tab [],[]⟩) (fun v1=>shotN32 v1=some r) ?_ ?_
 ·refine sg ?_
  refine ⟨_,rfl,_,List.length_map _,fun _=>?_⟩
  refine wT [(1,.b 1 0),(8,.s (mA p_s.Pasts)),(9,vi (p_s.Pasts.length:Int)),(10,vi (0))] [(1,.box [.s (mI p_s.Now.Nodes),vi p_s.Now.Next,vi p_s.Now.Cookie,vi p_s.Tick,.s (mB p_s.Since),.s (mA p_s.Pasts),.s (mU p_s.Taken),vi p_s.Next])] Q4 J1 rfl ?_
  refine bl ?_
  refine Ok.loop (fun (s1:Int)=>⟨Cat.tab [(1,.b 1 0),(8,.s (mA p_s.Pasts)),(9,vi (p_s.Pasts.length:Int)),(10,vi s1)],[(1,.box [.s (mI p_s.Now.Nodes),vi p_s.Now.Next,vi p_s.Now.Cookie,vi p_s.Tick,.s (mB p_s.Since),.s (mA p_s.Pasts),.s (mU p_s.Taken),vi p_s.Next])]⟩) (shotN30 p_s) (s0:=0) h (wt Q4 ⟨⟨_,rfl,.refl _⟩,Q0⟩ rfl) ?_
  intro s1 y1 hB1 hy1
  unfold shotN30 at hB1
  refine sg ?_
  refine wT [(1,.b 1 0),(8,.s (mA p_s.Pasts)),(9,vi (p_s.Pasts.length:Int)),(10,vi s1),(11,vb (decide (s1 < (p_s.Pasts.length:Int))))] [(1,.box [.s (mI p_s.Now.Nodes),vi p_s.Now.Next,vi p_s.Now.Cookie,vi p_s.Tick,.s (mB p_s.Since),.s (mA p_s.Pasts),.s (mU p_s.Taken),vi p_s.Next])] Q5 J1 rfl ?_
  refine sq ?_
  refine cn 11 (decide (s1 < (p_s.Pasts.length:Int))) rfl hB1 (fun hb hB1=>?_) fun hb hB1=>?_
  ·refine sk ?_
   refine sq ?_
   refine bl ?_
   refine sg ?_
   obtain ⟨x1,hx1,hB1⟩:=bindS hB1
   refine ⟨_,idx_nat hx1,_,idx_row hx1,_,rfl,_,rfl,?_⟩
   refine wT [(1,.b 1 0),(3,vi s1),(4,.b 4 0),(8,.s (mA p_s.Pasts)),(9,vi (p_s.Pasts.length:Int)),(10,vi s1)] [(1,.box [.s (mI p_s.Now.Nodes),vi p_s.Now.Next,vi p_s.Now.Cookie,vi p_s.Tick,.s (mB p_s.Since),.s (mA p_s.Pasts),.s (mU p_s.Taken),vi p_s.Next]),(4,.box [vi x1.From,vi x1.Till,vi x1.Node.Ino,vi x1.Node.Kind,vi x1.Node.Links,.s (mD x1.Node.Data),.s (mC x1.Node.Ents),vi x1.Node.Up])] Q6 J2 rfl ?_
   refine sq ?_
   obtain ⟨v2,hv2,hB1⟩:=bindS hB1
   refine Ok.seqw ⟨Cat.tab [(1,.b 1 0),(3,vi s1),(4,.b 4 0),(8,.s (mA p_s.Pasts)),(9,vi (p_s.Pasts.length:Int)),(10,vi s1),(41,vb v2)],[(1,.box [.s (mI p_s.Now.Nodes),vi p_s.Now.Next,vi p_s.Now.Cookie,vi p_s.Tick,.s (mB p_s.Since),.s (mA p_s.Pasts),.s (mU p_s.Taken),vi p_s.Next]),(4,.box [vi x1.From,vi x1.Till,vi x1.Node.Ino,vi x1.Node.Kind,vi x1.Node.Links,.s (mD x1.Node.Data),.s (mC x1.Node.Ents),vi x1.Node.Up])]⟩ ?_ ?_
   ·refine rg ?_
    refine ⟨_,rfl,?_⟩
    obtain ⟨c1,hg1,hv2⟩:=bindS hv2
    refine Br.itf hg1 (fun hb hg1=>?_) fun hb hg1=>?_
    ·cases hg1
     obtain ⟨c2,hg2,hv2⟩:=bindS hv2
     replace hg2:=iteT hg2
     cases hg2
     obtain ⟨c3,hg3,hv2⟩:=bindS hv2
     replace hg3:=iteT hg3
     cases hg3
     cases hv2
     exact wt Q7 J2 rfl
    refine ⟨_,rfl,_,rfl,?_⟩
    cases hg1
    obtain ⟨c2,hg4,hv2⟩:=bindS hv2
    refine Br.itf hg4 (fun hb hg4=>?_) fun hb hg4=>?_
    ·cases hg4
     obtain ⟨c3,hg5,hv2⟩:=bindS hv2
     replace hg5:=iteT hg5
     cases hg5
     cases hv2
     exact wt Q7 J2 rfl
    refine ⟨_,rfl,_,rfl,?_⟩
    cases hg4
    obtain ⟨c3,hg6,hv2⟩:=bindS hv2
    refine Br.itf hg6 (fun hb hg6=>?_) fun hb hg6=>?_
    ·cases hg6
     cases hv2
     exact wt Q7 J2 rfl
    obtain ⟨x2,hx2,hg6⟩:=bindS hg6
    refine ⟨_,rfl,_,rfl,_,rfl,?_⟩
    refine CallOk.call (w_shot_seen hx2) (LeL.refl _) ?_
    cases hg6
    cases hv2
    exact wt Q7 J2 rfl
   refine cn 41 (v2) rfl hB1 (fun hb hB1=>?_) fun hb hB1=>?_
   ·refine sg ?_
    refine wE [(2,vb false)] Q1 ?_
    refine rt ?_
    have hB1:=out_ret hB1 hy1
    cases hB1
    exact Fz.v
   refine sk ?_
   refine sq ?_
   obtain ⟨v3,hv3,hB1⟩:=bindS hB1
   refine Ok.seqw ⟨Cat.tab [(1,.b 1 0),(3,vi s1),(4,.b 4 0),(8,.s (mA p_s.Pasts)),(9,vi (p_s.Pasts.length:Int)),(10,vi s1),(70,vb v3)],[(1,.box [.s (mI p_s.Now.Nodes),vi p_s.Now.Next,vi p_s.Now.Cookie,vi p_s.Tick,.s (mB p_s.Since),.s (mA p_s.Pasts),.s (mU p_s.Taken),vi p_s.Next]),(4,.box [vi x1.From,vi x1.Till,vi x1.Node.Ino,vi x1.Node.Kind,vi x1.Node.Links,.s (mD x1.Node.Data),.s (mC x1.Node.Ents),vi x1.Node.Up])]⟩ ?_ ?_
   ·refine Ok.draw (m:=29) (MD:=⟨[]⟩) (CH:=⟨[]⟩) Tryz.tok Tryz.mixed (by kernel_rfl) ?_
    refine ⟨_,rfl,_,rfl,_,rfl,?_⟩
    obtain ⟨c4,hg7,hv3⟩:=bindS hv3
    refine Br.ite hg7 (fun hb hg7=>?_) fun hb hg7=>?_
    ·obtain ⟨hc1,hg7⟩:=chk_some hg7
     obtain ⟨x3,hx3,hg7⟩:=bindS hg7
     obtain ⟨x4,hx4,hg7⟩:=bindS hg7
     obtain ⟨hc2,hg7⟩:=chk_some hg7
     obtain ⟨x5,hx5,hg7⟩:=bindS hg7
     obtain ⟨x6,hx6,hg7⟩:=bindS hg7
     obtain ⟨x7,hx7,hg7⟩:=bindS hg7
     refine ⟨_,rfl,_,⟨_,rfl,rfl⟩,_,rfl,_,Or.inl ⟨hc1,rfl⟩,_,⟨_,idx_nat hx3,_,idx_row hx3,rfl⟩,_,rfl,_,⟨_,rfl,rfl⟩,_,rfl,_,⟨_,rfl,rfl⟩,_,⟨_,.of_pure (w_cmpN1 hx4) (LeL.refl _),rfl⟩,_,rfl,_,⟨_,rfl,rfl⟩,_,rfl,_,Or.inl ⟨hc2,rfl⟩,_,⟨_,idx_nat hx5,_,idx_row hx5,rfl⟩,_,rfl,_,rfl,_,⟨_,rfl,rfl⟩,_,rfl,_,rfl,_,⟨_,rfl,rfl⟩,_,⟨_,.of_pure (w_cmpN1 hx6) (LeL.refl _),rfl⟩,_,rfl,_,⟨_,.of_pure (w_cmpN2 hx7) (LeL.refl _),rfl⟩,_,rfl,?_⟩
     cases hg7
     refine ⟨_,rfl,?_⟩
     refine ⟨Q0,?_⟩
     cases hv3
     exact wt Q7 J2 rfl
    cases hg7
    refine ⟨_,rfl,?_⟩
    refine ⟨Q0,?_⟩
    cases hv3
    exact wt Q7 J2 rfl
   refine cn 70 (v3) rfl hB1 (fun hb hB1=>?_) fun hb hB1=>?_
   ·refine sg ?_
    refine wE [(2,vb false)] Q1 ?_
    refine rt ?_
    have hB1:=out_ret hB1 hy1
    cases hB1
    exact Fz.v
   refine sk ?_
   refine sg ?_
   refine wT [(1,.b 1 0),(3,vi s1),(4,.b 4 0),(5,.c (.func 73) [] [.b 4 0]),(8,.s (mA p_s.Pasts)),(9,vi (p_s.Pasts.length:Int)),(10,vi s1)] [(1,.box [.s (mI p_s.Now.Nodes),vi p_s.Now.Next,vi p_s.Now.Cookie,vi p_s.Tick,.s (mB p_s.Since),.s (mA p_s.Pasts),.s (mU p_s.Taken),vi p_s.Next]),(4,.box [vi x1.From,vi x1.Till,vi x1.Node.Ino,vi x1.Node.Kind,vi x1.Node.Links,.s (mD x1.Node.Data),.s (mC x1.Node.Ents),vi x1.Node.Up])] Q7 J2 rfl ?_
   refine sq ?_
   refine sg ?_
   obtain ⟨hc3,hB1⟩:=chk_some hB1
   obtain ⟨x8,hx8,hB1⟩:=bindS hB1
   refine ⟨_,rfl,_,sl_nat hc3.1,Nat.zero_le _,sl_len hc3,rowsK (f:=c_api_Past) (K:=8) (fun _=>rfl) p_s.Pasts,_,sl_take _ _ _,?_⟩
   refine CallOk.borrow (w_slicesN3 hx8) (.cons Fz.s (.cons (Fz.c .nil (.cons (Fz.b rfl rfl) .nil)) (.nil))) rfl ?_
   refine wT [(1,.b 1 0),(4,.b 4 0),(8,.s (mA p_s.Pasts)),(9,vi (p_s.Pasts.length:Int)),(10,vi s1),(77,vb x8)] [(1,.box [.s (mI p_s.Now.Nodes),vi p_s.Now.Next,vi p_s.Now.Cookie,vi p_s.Tick,.s (mB p_s.Since),.s (mA p_s.Pasts),.s (mU p_s.Taken),vi p_s.Next]),(4,.box [vi x1.From,vi x1.Till,vi x1.Node.Ino,vi x1.Node.Kind,vi x1.Node.Links,.s (mD x1.Node.Data),.s (mC x1.Node.Ents),vi x1.Node.Up])] Q6 J2 rfl ?_
   refine cn 77 (x8) rfl hB1 (fun hb hB1=>?_) fun hb hB1=>?_
   ·refine sg ?_
    refine wE [(2,vb false)] Q1 ?_
    refine rt ?_
    have hB1:=out_ret hB1 hy1
    cases hB1
    exact Fz.v
   refine sk ?_
   refine sg ?_
   obtain ⟨x9,hx9,hB1⟩:=bindS hB1
   refine ⟨_,rfl,_,rfl,?_⟩
   refine CallOk.call (w_shot_find hx9) (LeL.refl _) ?_
   refine wT [(1,.b 1 0),(4,.b 4 0),(6,vi x9),(8,.s (mA p_s.Pasts)),(9,vi (p_s.Pasts.length:Int)),(10,vi s1)] [(1,.box [.s (mI p_s.Now.Nodes),vi p_s.Now.Next,vi p_s.Now.Cookie,vi p_s.Tick,.s (mB p_s.Since),.s (mA p_s.Pasts),.s (mU p_s.Taken),vi p_s.Next]),(4,.box [vi x1.From,vi x1.Till,vi x1.Node.Ino,vi x1.Node.Kind,vi x1.Node.Links,.s (mD x1.Node.Data),.s (mC x1.Node.Ents),vi x1.Node.Up])] Q6 J2 rfl ?_
   obtain ⟨v4,hv4,hB1⟩:=bindS hB1
   refine Ok.seqw ⟨Cat.tab [(1,.b 1 0),(8,.s (mA p_s.Pasts)),(9,vi (p_s.Pasts.length:Int)),(10,vi s1),(96,vb v4)],[(1,.box [.s (mI p_s.Now.Nodes),vi p_s.Now.Next,vi p_s.Now.Cookie,vi p_s.Tick,.s (mB p_s.Since),.s (mA p_s.Pasts),.s (mU p_s.Taken),vi p_s.Next])]⟩ ?_ ?_
   ·refine Ok.draw (m:=12) (MD:=⟨[]⟩) (CH:=⟨[]⟩) Tryz.tok Tryz.mixed (by kernel_rfl) ?_
    refine ⟨_,rfl,_,rfl,_,rfl,?_⟩
    obtain ⟨c5,hg8,hv4⟩:=bindS hv4
    refine Br.ite hg8 (fun hb hg8=>?_) fun hb hg8=>?_
    ·obtain ⟨x10,hx10,hg8⟩:=bindS hg8
     refine ⟨_,rfl,_,⟨_,rfl,rfl⟩,_,rfl,_,⟨_,idx_nat hx10,_,idx_row hx10,rfl⟩,_,⟨_,rfl,rfl⟩,_,rfl,_,⟨_,rfl,rfl⟩,_,rfl,?_⟩
     cases hg8
     refine ⟨_,rfl,?_⟩
     refine ⟨Q0,?_⟩
     cases hv4
     exact wt Q5 J1 rfl
    cases hg8
    refine ⟨_,rfl,?_⟩
    refine ⟨Q0,?_⟩
    cases hv4
    exact wt Q5 J1 rfl
   refine cn 96 (v4) rfl hB1 (fun hb hB1=>?_) fun hb hB1=>?_
   ·refine sg ?_
    refine wE [(2,vb false)] Q1 ?_
    refine rt ?_
    have hB1:=out_ret hB1 hy1
    cases hB1
    exact Fz.v
   refine sk ?_
   refine rg ?_
   obtain ⟨hc4,hB1⟩:=chk_some hB1
   refine (Or.inl ⟨hc4,?_⟩)
   exact ⟨_,sj hB1,wt Q4 J1 rfl⟩
  refine xt ?_
  have hB1:=out_ret hB1 hy1
  exact ⟨_,hB1,wt Q0 Q0 rfl⟩
 intro v1 h
 unfold shotN32 at h
 refine sg ?_
 refine wE [(2,vb true)] Q1 ?_
 refine rt ?_
 cases h
 exact Fz.v
end Go.Proofs
