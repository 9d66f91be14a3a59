/- The walks of this seat beside the plain programs, part 0. No condition. -/
import Derived.Test.YthkdflbnmbnbaaaGreatXShotRightEn
namespace Go.Proofs
set_option linter.all false
open Go Go.Cat
variable [M:Mono]
set_option maxRecDepth 100000
theorem sg [R : Rnds] {n : Nat} {st : ASt} {Q : Exit → ASt → Prop} {id : Nat} {ops : Array Oper} {y : Code} (h : wpo Tryz.prog (lk Tryz.tl) n ops ops.toList st (nx Tryz.prog n y Q .normal)) : Ok Tryz.prog n (.seq (.region id ops false) y) st Q := Sg Tryz.tok h
theorem rg [R : Rnds] {n : Nat} {st : ASt} {Q : Exit → ASt → Prop} {id : Nat} {ops : Array Oper} (h : wpo Tryz.prog (lk Tryz.tl) n ops ops.toList st (Q .normal)) : Ok Tryz.prog n (.region id ops false) st Q := Ok.region Tryz.tok h
abbrev mI := List.map c_api_Node
abbrev mU := List.map c_api_Shot
abbrev mA := List.map c_api_Past
abbrev mB := List.map Go.Cat.encI
abbrev mC := List.map c_api_Ent
abbrev mD := List.map cU8
abbrev mE := List.map c_law10_Act
theorem w_ref07_New {r} (h:ref07_New=some r):Pure Tryz.prog 28 [] (.a [(.s (mI r.Nodes)),(vi r.Next),(vi r.Cookie)]):=by
 refine po Tryz.tok 4 Tryz.func28 (by kernel_rfl) rfl rfl rfl ?_
 unfold ref07_New at h
 refine wE [] Q0 ?_
 refine sg ?_
 refine wT [(0,.b 0 0)] [(0,.box [.v (.slice none 0 0),vi (0),vi (0)])] Q1 J1 rfl ?_
 refine sg ?_
 refine Or.inl ⟨_,rfl,?_⟩
 refine wT [(0,.b 0 0)] [(0,.box [.s (mI ([(⟨1,2,0,[],[],1⟩:api_Node)])),vi (2),vi (1)])] Q1 J1 rfl ?_
 refine rt ?_
 cases h
 exact ⟨_,rfl,(Fz.imm rfl)⟩
theorem w_shot_New {p_t} {r} (h:shot_New p_t=some r):Pure Tryz.prog 27 [(.a [(.s (mI p_t.Nodes)),(vi p_t.Next),(vi p_t.Cookie)])] (.a [(.s (mI r.Now.Nodes)),(vi r.Now.Next),(vi r.Now.Cookie),(vi r.Tick),(.s (mB r.Since)),(.s (mA r.Pasts)),(.s (mU r.Taken)),(vi r.Next)]):=by
 refine po Tryz.tok 9 Tryz.func27 (by kernel_rfl) rfl rfl rfl ?_
 unfold shot_New at h
 refine wE [(0,.a [.s (mI p_t.Nodes),vi p_t.Next,vi p_t.Cookie])] Q1 ?_
 refine sg ?_
 refine wT [(1,.b 1 0),(2,.b 2 0)] [(1,.box [.s (mI p_t.Nodes),vi p_t.Next,vi p_t.Cookie]),(2,.box [.v (.slice none 0 0),vi (0),vi (0),vi (0),.v (.slice none 0 0),.v (.slice none 0 0),.v (.slice none 0 0),vi (0)])] Q2 J2 rfl ?_
 refine sq ?_
 refine Ok.draw (m:=6) (MD:=⟨[]⟩) (CH:=⟨[]⟩) Tryz.tok Tryz.mixed (by kernel_rfl) ?_
 obtain ⟨hc1,h⟩:=chk_some h
 refine ⟨_,⟨_,rfl,rfl⟩,_,rfl,_,⟨_,rfl,rfl⟩,_,⟨_,List.length_map _,fun _=>rfl⟩,_,⟨_,_,mk_nat hc1,mk_nat hc1,Nat.le_refl _,mk_le (by decide) hc1,hc1.2,_,(List.map_replicate (f:=Go.Cat.encI) (a:=(0:Int))).symm,rfl⟩,_,rfl,Q0,_,rfl,?_⟩
 refine wT [(2,.b 2 0)] [(2,.box [.s (mI p_t.Nodes),vi p_t.Next,vi p_t.Cookie,vi (0),.s (mB (List.replicate (p_t.Nodes.length:Int).toNat (0:Int))),.v (.slice none 0 0),.v (.slice none 0 0),vi (1)])] Q1 J1 rfl ?_
 refine rt ?_
 cases h
 exact ⟨_,rfl,(Fz.a (.cons Fz.s (.cons Fz.v (.cons Fz.v (.cons Fz.v (.cons Fz.s (.cons Fz.nil (.cons Fz.nil (.cons Fz.v .nil)))))))))⟩
theorem w_cmpN3 {p_x} {r} (h:cmpN7 p_x=some r):Pure Tryz.prog 102 [(vi p_x)] (vb r):=by
 refine po Tryz.tok 6 Tryz.func102 (by kernel_rfl) rfl rfl rfl ?_
 unfold cmpN7 at h
 refine wE [(0,vi p_x)] Q1 ?_
 refine sg ?_
 refine wE [(0,vi p_x)] Q1 ?_
 refine sg ?_
 refine wE [(2,vb (p_x != p_x))] Q1 ?_
 refine rt ?_
 cases h
 exact Fz.v
theorem w_cmpN1 {p_x} {p_y} {r} (h:cmpN1 p_x p_y=some r):Pure Tryz.prog 72 [(vi p_x),(vi p_y)] (vi r):=by
 refine po Tryz.tok 20 Tryz.func72 (by kernel_rfl) rfl rfl rfl ?_
 unfold cmpN1 at h
 refine wE [(0,vi p_x),(1,vi p_y)] Q2 ?_
 refine sg ?_
 refine wE [(0,vi p_x),(1,vi p_y)] Q2 ?_
 refine sg ?_
 obtain ⟨x1,hx1,h⟩:=bindS h
 refine CallOk.call (w_cmpN3 hx1) (LeL.refl _) ?_
 refine wE [(0,vi p_x),(1,vi p_y),(5,vb x1)] Q3 ?_
 refine sg ?_
 obtain ⟨x2,hx2,h⟩:=bindS h
 refine CallOk.call (w_cmpN3 hx2) (LeL.refl _) ?_
 refine wE [(0,vi p_x),(1,vi p_y),(5,vb x1),(6,vb x2)] Q4 ?_
 refine sq ?_
 refine sg ?_
 refine wE [(0,vi p_x),(1,vi p_y),(6,vb x2),(11,vb x1)] Q4 ?_
 refine cn 11 (x1) rfl h (fun hb h=>?_) fun hb h=>?_
 ·refine sq ?_
  refine sg ?_
  refine wE [(12,vb x2)] Q1 ?_
  refine cn 12 (x2) rfl h (fun hb h=>?_) fun hb h=>?_
  ·refine sg ?_
   refine wE [(4,vi (0))] Q1 ?_
   refine rt ?_
   cases h
   exact Fz.v
  refine sk ?_
  refine sg ?_
  refine wE [(4,vi (-1))] Q1 ?_
  refine rt ?_
  cases h
  exact Fz.v
 refine sk ?_
 refine sq ?_
 refine sg ?_
 refine wE [(0,vi p_x),(1,vi p_y),(13,vb x2)] Q3 ?_
 refine cn 13 (x2) rfl h (fun hb h=>?_) fun hb h=>?_
 ·refine sg ?_
  refine wE [(4,vi (1))] Q1 ?_
  refine rt ?_
  cases h
  exact Fz.v
 refine sk ?_
 refine sq ?_
 refine sg ?_
 refine wE [(0,vi p_x),(1,vi p_y),(16,vb (decide (p_x < p_y)))] Q3 ?_
 refine cn 16 (decide (p_x < p_y)) rfl h (fun hb h=>?_) fun hb h=>?_
 ·refine sg ?_
  refine wE [(4,vi (-1))] Q1 ?_
  refine rt ?_
  cases h
  exact Fz.v
 refine sk ?_
 refine sq ?_
 refine sg ?_
 refine wE [(19,vb (decide (p_x > p_y)))] Q1 ?_
 refine cn 19 (decide (p_x > p_y)) rfl h (fun hb h=>?_) fun hb h=>?_
 ·refine sg ?_
  refine wE [(4,vi (1))] Q1 ?_
  refine rt ?_
  cases h
  exact Fz.v
 refine sk ?_
 refine sg ?_
 refine wE [(4,vi (0))] Q1 ?_
 refine rt ?_
 cases h
 exact Fz.v
theorem w_treeN4 {p_n} {p_ino} {r} (h:treeN15 p_n p_ino=some r):Pure Tryz.prog 119 [(.a [(vi p_n.Ino),(vi p_n.Kind),(vi p_n.Links),(.s (mD p_n.Data)),(.s (mC p_n.Ents)),(vi p_n.Up)]),(vi p_ino)] (vi r):=by
 refine po Tryz.tok 9 Tryz.func119 (by kernel_rfl) rfl rfl rfl ?_
 unfold treeN15 at h
 refine wE [(0,.a [vi p_n.Ino,vi p_n.Kind,vi p_n.Links,.s (mD p_n.Data),.s (mC p_n.Ents),vi p_n.Up]),(1,vi p_ino)] Q2 ?_
 refine sg ?_
 refine wT [(1,vi p_ino),(2,.b 2 0)] [(2,.box [vi p_n.Ino,vi p_n.Kind,vi p_n.Links,.s (mD p_n.Data),.s (mC p_n.Ents),vi p_n.Up])] Q2 J1 rfl ?_
 refine sg ?_
 obtain ⟨x1,hx1,h⟩:=bindS h
 refine ⟨_,rfl,?_⟩
 refine CallOk.call (w_cmpN1 hx1) (LeL.refl _) ?_
 refine wE [(4,vi x1)] Q1 ?_
 refine rt ?_
 cases h
 exact Fz.v
theorem w_slicesN2 {p_x} {p_target} {r} (h:slicesN7 p_x p_target=some r):Pure Tryz.prog 78 [(.s (mI p_x)),(vi p_target),(.c (.func 119) [] [])] (.t [(vi r.1),(vb r.2)]):=by
 refine po Tryz.tok 49 Tryz.func78 (by kernel_rfl) rfl rfl rfl ?_
 unfold slicesN7 at h
 refine wE [(0,.s (mI p_x)),(1,vi p_target),(2,.c (.func 119) [] [])] Q3 ?_
 refine sg ?_
 refine wE [(0,.s (mI p_x)),(1,vi p_target),(2,.c (.func 119) [] [])] Q3 ?_
 refine sg ?_
 refine ⟨_,List.length_map _,fun _=>?_⟩
 refine wE [(0,.s (mI p_x)),(1,vi p_target),(2,.c (.func 119) [] []),(8,vi (p_x.length:Int))] Q4 ?_
 refine sg ?_
 refine wE [(0,.s (mI p_x)),(1,vi p_target),(2,.c (.func 119) [] []),(8,vi (p_x.length:Int)),(9,vi (0)),(10,vi (p_x.length:Int))] Q6 ?_
 obtain ⟨v1,hv1,h⟩:=bindS h
 refine Ok.seqw ⟨Cat.tab [(0,.s (mI p_x)),(1,vi p_target),(2,.c (.func 119) [] []),(8,vi (p_x.length:Int)),(9,vi v1)],[]⟩ ?_ ?_
 ·refine bl ?_
  refine Ok.loop (fun (s1:Int×Int)=>⟨Cat.tab [(0,.s (mI p_x)),(1,vi p_target),(2,.c (.func 119) [] []),(8,vi (p_x.length:Int)),(9,vi s1.1),(10,vi s1.2)],[]⟩) (slicesN9 p_x p_target) (s0:=(0,(p_x.length:Int))) hv1 (wt Q6 Q0 rfl) ?_
  intro s1 y1 hB1 hy1
  unfold slicesN9 at hB1
  refine sq ?_
  refine sg ?_
  refine wE [(0,.s (mI p_x)),(1,vi p_target),(2,.c (.func 119) [] []),(8,vi (p_x.length:Int)),(9,vi s1.1),(10,vi s1.2),(17,vb (decide (s1.1 < s1.2)))] Q7 ?_
  refine cn 17 (decide (s1.1 < s1.2)) rfl hB1 (fun hb hB1=>?_) fun hb hB1=>?_
  ·refine sk ?_
   refine bl ?_
   refine sg ?_
   obtain ⟨hc1,hB1⟩:=chk_some hB1
   refine (Or.inl ⟨hc1,_,rfl,(by decide),_,rfl,_,rfl,?_⟩)
   refine wE [(0,.s (mI p_x)),(1,vi p_target),(2,.c (.func 119) [] []),(8,vi (p_x.length:Int)),(9,vi s1.1),(10,vi s1.2),(11,vi (IntKind.i64.wrap (shrK .u64 (IntKind.u64.wrap (s1.1+s1.2)) (1))))] Q7 ?_
   refine sg ?_
   obtain ⟨x1,hx1,hB1⟩:=bindS hB1
   obtain ⟨x2,hx2,hB1⟩:=bindS hB1
   refine ⟨_,idx_nat hx1,_,idx_row hx1,_,rfl,?_⟩
   refine CallOk.call (w_treeN4 hx2) (LeL.refl _) ?_
   refine wE [(0,.s (mI p_x)),(1,vi p_target),(2,.c (.func 119) [] []),(8,vi (p_x.length:Int)),(9,vi s1.1),(10,vi s1.2),(11,vi (IntKind.i64.wrap (shrK .u64 (IntKind.u64.wrap (s1.1+s1.2)) (1)))),(31,vb (decide (x2 < 0)))] Q8 ?_
   refine cn 31 (decide (x2 < 0)) rfl hB1 (fun hb hB1=>?_) fun hb hB1=>?_
   ·refine rg ?_
    obtain ⟨hc2,hB1⟩:=chk_some hB1
    refine (Or.inl ⟨hc2,?_⟩)
    exact ⟨_,sj hB1,wt Q6 Q0 rfl⟩
   refine rg ?_
   exact ⟨_,sj hB1,wt Q6 Q0 rfl⟩
  refine xt ?_
  have hB1:=out_ret hB1 hy1
  cases hB1
  exact wt Q5 Q0 rfl
 obtain ⟨v2,hv2,h⟩:=bindS h
 refine Ok.seqw ⟨Cat.tab [(6,vi v1),(7,vb v2)],[]⟩ ?_ ?_
 ·refine rg ?_
  obtain ⟨c1,hg1,hv2⟩:=bindS hv2
  refine Br.ite hg1 (fun hb hg1=>?_) fun hb hg1=>?_
  ·obtain ⟨x3,hx3,hg1⟩:=bindS hg1
   obtain ⟨x4,hx4,hg1⟩:=bindS hg1
   refine ⟨_,idx_nat hx3,_,idx_row hx3,_,rfl,?_⟩
   refine CallOk.call (w_treeN4 hx4) (LeL.refl _) ?_
   cases hg1
   cases hv2
   exact wt Q2 Q0 rfl
  cases hg1
  cases hv2
  exact wt Q2 Q0 rfl
 refine rt ?_
 cases h
 exact (Fz.t (.cons Fz.v (.cons Fz.v .nil)))
theorem w_treeN3 {self} {p_ino} {r} (h:treeN13 self p_ino=some r):PChg Tryz.prog 106 [(.b 1000 0),(vi p_ino)] (.box [(.s (mI self.Tree.Nodes)),(vi self.Tree.Next),(vi self.Tree.Cookie)]) (fun x c=>x=(.t [(vi r.1.1),(vb r.1.2)])∧c=.box [(.s (mI r.2.Tree.Nodes)),(vi r.2.Tree.Next),(vi r.2.Tree.Cookie)]):=by
 refine pchg_of_ok (n:=15) (c:=Tryz.f106.body.getD .skip) Tryz.tok Tryz.func106 (by kernel_rfl) rfl rfl (Nat.le_of_ble_eq_true rfl) ?_
 unfold treeN13 at h
 refine wT [(0,.b 1000 0),(1,vi p_ino)] [(1000,.box [.s (mI self.Tree.Nodes),vi self.Tree.Next,vi self.Tree.Cookie])] Q2 J1 rfl ?_
 refine sg ?_
 refine wT [(0,.b 1000 0),(1,vi p_ino)] [(1000,.box [.s (mI self.Tree.Nodes),vi self.Tree.Next,vi self.Tree.Cookie])] Q2 J1 rfl ?_
 refine sg ?_
 obtain ⟨x1,hx1,h⟩:=bindS h
 refine ⟨_,rfl,?_⟩
 refine CallOk.call (w_slicesN2 hx1) (LeL.refl _) ?_
 refine wT [(4,vi x1.1),(5,vb x1.2)] [(1000,.box [.s (mI self.Tree.Nodes),vi self.Tree.Next,vi self.Tree.Cookie])] Q2 J1 rfl ?_
 refine rt ?_
 cases h
 exact ⟨_,_,⟨rfl,rfl⟩,rfl,rfl,(Fz.t (.cons Fz.v (.cons Fz.v .nil)))⟩
theorem w_treeN6 {self} {p_ino} {r} (h:treeN28 self p_ino=some r):PChg Tryz.prog 82 [(.b 1000 0),(vi p_ino)] (.box [(.s (mI self.Tree.Nodes)),(vi self.Tree.Next),(vi self.Tree.Cookie)]) (fun x c=>x=(.t [(.a [(vi r.1.1.Ino),(vi r.1.1.Kind),(vi r.1.1.Links),(.s (mD r.1.1.Data)),(.s (mC r.1.1.Ents)),(vi r.1.1.Up)]),(vb r.1.2)])∧c=.box [(.s (mI r.2.Tree.Nodes)),(vi r.2.Tree.Next),(vi r.2.Tree.Cookie)]):=by
 refine pchg_of_ok (n:=25) (c:=Tryz.f82.body.getD .skip) Tryz.tok Tryz.func82 (by kernel_rfl) rfl rfl (Nat.le_of_ble_eq_true rfl) ?_
 unfold treeN28 at h
 refine wT [(0,.b 1000 0),(1,vi p_ino)] [(1000,.box [.s (mI self.Tree.Nodes),vi self.Tree.Next,vi self.Tree.Cookie])] Q2 J1 rfl ?_
 refine sg ?_
 refine wT [(0,.b 1000 0),(1,vi p_ino),(4,.b 4 0)] [(1000,.box [.s (mI self.Tree.Nodes),vi self.Tree.Next,vi self.Tree.Cookie]),(4,.box [vi (0),vi (0),vi (0),.v (.slice none 0 0),.v (.slice none 0 0),vi (0)])] Q3 J2 rfl ?_
 refine sg ?_
 obtain ⟨x1,hx1,h⟩:=bindS h
 refine CallOk.chgLe (id:=1000) (w_treeN3 hx1) rfl (.box (.cons (lr) (.cons (lr) (.cons (lr) (.nil))))) rfl (.cons (Lr.b) (.cons (Lr.imm rfl) (.nil))) ?_
 rintro _ _ ⟨rfl,rfl⟩
 refine wT [(0,.b 1000 0),(4,.b 4 0),(6,vi x1.1.1),(7,vb x1.1.2)] [(1000,.box [.s (mI x1.2.Tree.Nodes),vi x1.2.Tree.Next,vi x1.2.Tree.Cookie]),(4,.box [vi (0),vi (0),vi (0),.v (.slice none 0 0),.v (.slice none 0 0),vi (0)])] Q4 J2 rfl ?_
 refine sq ?_
 refine sg ?_
 refine wT [(0,.b 1000 0),(4,.b 4 0),(6,vi x1.1.1),(15,vb (!x1.1.2))] [(1000,.box [.s (mI x1.2.Tree.Nodes),vi x1.2.Tree.Next,vi x1.2.Tree.Cookie]),(4,.box [vi (0),vi (0),vi (0),.v (.slice none 0 0),.v (.slice none 0 0),vi (0)])] Q4 J2 rfl ?_
 refine cn 15 (!x1.1.2) rfl h (fun hb h=>?_) fun hb h=>?_
 ·refine sg ?_
  refine ⟨_,rfl,?_⟩
  refine wT [(4,.b 4 0),(5,vb false)] [(4,.box [vi (0),vi (0),vi (0),.v (.slice none 0 0),.v (.slice none 0 0),vi (0)]),(1000,.box [.s (mI x1.2.Tree.Nodes),vi x1.2.Tree.Next,vi x1.2.Tree.Cookie])] Q2 J2 rfl ?_
  refine rt ?_
  cases h
  exact ⟨_,rfl,_,_,⟨rfl,rfl⟩,rfl,rfl,(Fz.t (.cons (Fz.a (.cons Fz.v (.cons Fz.v (.cons Fz.v (.cons Fz.nil (.cons Fz.nil (.cons Fz.v .nil))))))) (.cons Fz.v .nil)))⟩
 refine sk ?_
 refine sg ?_
 obtain ⟨x2,hx2,h⟩:=bindS h
 refine ⟨_,rfl,_,idx_nat hx2,_,idx_row hx2,_,rfl,_,rfl,?_⟩
 refine wT [(4,.b 4 0),(5,vb true)] [(4,.box [vi x2.Ino,vi x2.Kind,vi x2.Links,.s (mD x2.Data),.s (mC x2.Ents),vi x2.Up]),(1000,.box [.s (mI x1.2.Tree.Nodes),vi x1.2.Tree.Next,vi x1.2.Tree.Cookie])] Q2 J2 rfl ?_
 refine rt ?_
 cases h
 exact ⟨_,rfl,_,_,⟨rfl,rfl⟩,rfl,rfl,(Fz.t (.cons (Fz.imm rfl) (.cons Fz.v .nil)))⟩
theorem w_tree_Get {p_t} {p_ino} {r} (h:tree_Get p_t p_ino=some r):Pure Tryz.prog 44 [(.a [(.s (mI p_t.Nodes)),(vi p_t.Next),(vi p_t.Cookie)]),(vi p_ino)] (.t [(.a [(vi r.1.Ino),(vi r.1.Kind),(vi r.1.Links),(.s (mD r.1.Data)),(.s (mC r.1.Ents)),(vi r.1.Up)]),(vb r.2)]):=by
 refine po Tryz.tok 13 Tryz.func44 (by kernel_rfl) rfl rfl rfl ?_
 unfold tree_Get at h
 refine wE [(0,.a [.s (mI p_t.Nodes),vi p_t.Next,vi p_t.Cookie]),(1,vi p_ino)] Q2 ?_
 refine sg ?_
 refine wT [(1,vi p_ino),(2,.b 2 0),(4,.b 4 0)] [(2,.box [.s (mI p_t.Nodes),vi p_t.Next,vi p_t.Cookie]),(4,.box [vi (0),vi (0),vi (0),.v (.slice none 0 0),.v (.slice none 0 0),vi (0)])] Q3 J2 rfl ?_
 refine sg ?_
 obtain ⟨x1,hx1,h⟩:=bindS h
 refine ⟨_,rfl,?_⟩
 refine CallOk.chgLe (id:=8) (w_treeN6 hx1) rfl (.box (.cons (lr) (.cons (lr) (.cons (lr) (.nil))))) rfl (.cons (Lr.b) (.cons (Lr.imm rfl) (.nil))) ?_
 rintro _ _ ⟨rfl,rfl⟩
 refine ⟨_,rfl,?_⟩
 refine wT [(4,.b 4 0),(5,vb x1.1.2)] [(4,.box [vi x1.1.1.Ino,vi x1.1.1.Kind,vi x1.1.1.Links,.s (mD x1.1.1.Data),.s (mC x1.1.1.Ents),vi x1.1.1.Up])] Q2 J1 rfl ?_
 refine rt ?_
 cases h
 exact ⟨_,rfl,(Fz.t (.cons (Fz.imm rfl) (.cons Fz.v .nil)))⟩
theorem wo_slicesN2 {p_s} {r} (h:slicesN15 p_s=some r):POwn Tryz.prog 45 [(.s (mU p_s))] 47 3 (mU r):=by
 refine pw Tryz.tok 8 Tryz.func45 (by kernel_rfl) rfl rfl rfl ?_
 unfold slicesN15 at h
 refine wE [(0,.s (mU p_s))] Q1 ?_
 refine sg ?_
 refine wE [(0,.s (mU p_s))] Q1 ?_
 refine sq ?_
 refine sg ?_
 intro b1 hb1
 have h:=anyOf_some h b1 (fun e=>List.map_eq_nil_iff.1 (hb1 e))
 refine wE [(0,.s (mU p_s)),(4,vb b1)] Q2 ?_
 refine cn 4 (b1) rfl h (fun hb h=>?_) fun hb h=>?_
 ·refine sg ?_
  refine wE [(2,.v (.slice none 0 0))] Q1 ?_
  refine rt ?_
  cases h
  exact (.inl ⟨rfl,rfl⟩)
 refine sk ?_
 refine sg ?_
 obtain ⟨hc1,h⟩:=chk_some h
 refine Or.inr ⟨rowsLen_map (f:=c_api_Shot) (n:=3) (fun _=>rfl) p_s,app_b2 (f:=c_api_Shot) (l:=([]:List api_Shot)) (l':=p_s) hc1,_,(List.map_append (f:=c_api_Shot) (l₁:=([]:List api_Shot)) (l₂:=p_s)).symm,?_⟩
 refine wT [(2,.o 5)] [(5,.own 47 3 (mU (([]:List api_Shot)++p_s)))] Q1 J1 rfl ?_
 refine rt ?_
 cases h
 exact (.inr ⟨_,rfl,rfl⟩)
theorem w_shot_Take {p_s} {p_ino} {r} (h:shot_Take p_s p_ino=some r):Pure Tryz.prog 20 [(.a [(.s (mI p_s.Now.Nodes)),(vi p_s.Now.Next),(vi p_s.Now.Cookie),(vi p_s.Tick),(.s (mB p_s.Since)),(.s (mA p_s.Pasts)),(.s (mU p_s.Taken)),(vi p_s.Next)]),(vi p_ino)] (.t [(.a [(.s (mI r.1.Now.Nodes)),(vi r.1.Now.Next),(vi r.1.Now.Cookie),(vi r.1.Tick),(.s (mB r.1.Since)),(.s (mA r.1.Pasts)),(.s (mU r.1.Taken)),(vi r.1.Next)]),(vi r.2.1),(vi r.2.2)]):=by
 refine po Tryz.tok 56 Tryz.func20 (by kernel_rfl) rfl rfl rfl ?_
 unfold shot_Take at h
 refine wE [(0,.a [.s (mI p_s.Now.Nodes),vi p_s.Now.Next,vi p_s.Now.Cookie,vi p_s.Tick,.s (mB p_s.Since),.s (mA p_s.Pasts),.s (mU p_s.Taken),vi p_s.Next]),(1,vi p_ino)] Q2 ?_
 refine sg ?_
 refine wT [(1,vi p_ino),(2,.b 2 0),(4,.b 4 0)] [(2,.box [.s (mI p_s.Now.Nodes),vi p_s.Now.Next,vi p_s.Now.Cookie,vi p_s.Tick,.s (mB p_s.Since),.s (mA p_s.Pasts),.s (mU p_s.Taken),vi p_s.Next]),(4,.box [.v (.slice none 0 0),vi (0),vi (0),vi (0),.v (.slice none 0 0),.v (.slice none 0 0),.v (.slice none 0 0),vi (0)])] Q3 J2 rfl ?_
 refine sg ?_
 obtain ⟨x1,hx1,h⟩:=bindS h
 refine ⟨_,rfl,?_⟩
 refine CallOk.call (w_tree_Get hx1) (LeL.refl _) ?_
 refine ⟨_,rfl,?_⟩
 refine wT [(1,vi p_ino),(2,.b 2 0),(4,.b 4 0),(7,.b 7 0),(8,vb x1.2)] [(2,.box [.s (mI p_s.Now.Nodes),vi p_s.Now.Next,vi p_s.Now.Cookie,vi p_s.Tick,.s (mB p_s.Since),.s (mA p_s.Pasts),.s (mU p_s.Taken),vi p_s.Next]),(4,.box [.v (.slice none 0 0),vi (0),vi (0),vi (0),.v (.slice none 0 0),.v (.slice none 0 0),.v (.slice none 0 0),vi (0)]),(7,.box [vi x1.1.Ino,vi x1.1.Kind,vi x1.1.Links,.s (mD x1.1.Data),.s (mC x1.1.Ents),vi x1.1.Up])] Q5 J3 rfl ?_
 refine sq ?_
 refine bl ?_
 refine sg ?_
 refine wT [(1,vi p_ino),(2,.b 2 0),(4,.b 4 0),(7,.b 7 0),(17,vb (!x1.2))] [(2,.box [.s (mI p_s.Now.Nodes),vi p_s.Now.Next,vi p_s.Now.Cookie,vi p_s.Tick,.s (mB p_s.Since),.s (mA p_s.Pasts),.s (mU p_s.Taken),vi p_s.Next]),(4,.box [.v (.slice none 0 0),vi (0),vi (0),vi (0),.v (.slice none 0 0),.v (.slice none 0 0),.v (.slice none 0 0),vi (0)]),(7,.box [vi x1.1.Ino,vi x1.1.Kind,vi x1.1.Links,.s (mD x1.1.Data),.s (mC x1.1.Ents),vi x1.1.Up])] Q5 J3 rfl ?_
 refine cn 17 (!x1.2) rfl h (fun hb h=>?_) fun hb h=>?_
 ·refine sg ?_
  refine ⟨_,rfl,_,rfl,?_⟩
  refine wT [(4,.b 4 0),(5,vi (0)),(6,vi (70))] [(4,.box [.s (mI p_s.Now.Nodes),vi p_s.Now.Next,vi p_s.Now.Cookie,vi p_s.Tick,.s (mB p_s.Since),.s (mA p_s.Pasts),.s (mU p_s.Taken),vi p_s.Next])] Q3 J1 rfl ?_
  refine rt ?_
  cases h
  exact ⟨_,rfl,(Fz.t (.cons (Fz.imm rfl) (.cons Fz.v (.cons Fz.v .nil))))⟩
 refine sg ?_
 refine ⟨_,rfl,?_⟩
 refine wT [(1,vi p_ino),(2,.b 2 0),(4,.b 4 0),(21,vb (x1.1.Kind != 2))] [(2,.box [.s (mI p_s.Now.Nodes),vi p_s.Now.Next,vi p_s.Now.Cookie,vi p_s.Tick,.s (mB p_s.Since),.s (mA p_s.Pasts),.s (mU p_s.Taken),vi p_s.Next]),(4,.box [.v (.slice none 0 0),vi (0),vi (0),vi (0),.v (.slice none 0 0),.v (.slice none 0 0),.v (.slice none 0 0),vi (0)])] Q4 J2 rfl ?_
 refine cn 21 (x1.1.Kind != 2) rfl h (fun hb h=>?_) fun hb h=>?_
 ·refine sg ?_
  refine ⟨_,rfl,_,rfl,?_⟩
  refine wT [(4,.b 4 0),(5,vi (0)),(6,vi (73))] [(4,.box [.s (mI p_s.Now.Nodes),vi p_s.Now.Next,vi p_s.Now.Cookie,vi p_s.Tick,.s (mB p_s.Since),.s (mA p_s.Pasts),.s (mU p_s.Taken),vi p_s.Next])] Q3 J1 rfl ?_
  refine rt ?_
  cases h
  exact ⟨_,rfl,(Fz.t (.cons (Fz.imm rfl) (.cons Fz.v (.cons Fz.v .nil))))⟩
 obtain ⟨v1,hv1,h⟩:=bindS h
 refine Ok.seqw ⟨Cat.tab [(1,vi p_ino),(2,.b 2 0),(4,.b 4 0),(26,vb v1)],[(2,.box [.s (mI p_s.Now.Nodes),vi p_s.Now.Next,vi p_s.Now.Cookie,vi p_s.Tick,.s (mB p_s.Since),.s (mA p_s.Pasts),.s (mU p_s.Taken),vi p_s.Next]),(4,.box [.v (.slice none 0 0),vi (0),vi (0),vi (0),.v (.slice none 0 0),.v (.slice none 0 0),.v (.slice none 0 0),vi (0)])]⟩ ?_ ?_
 ·refine rg ?_
  refine ⟨_,rfl,_,List.length_map _,fun _=>?_⟩
  obtain ⟨c1,hg1,hv1⟩:=bindS hv1
  refine Br.itf hg1 (fun hb hg1=>?_) fun hb hg1=>?_
  ·cases hg1
   cases hv1
   exact wt Q4 J2 rfl
  refine ⟨_,rfl,?_⟩
  cases hg1
  cases hv1
  exact wt Q4 J2 rfl
 refine cn 26 (v1) rfl h (fun hb h=>?_) fun hb h=>?_
 ·refine sg ?_
  refine ⟨_,rfl,_,rfl,?_⟩
  refine wT [(4,.b 4 0),(5,vi (0)),(6,vi (76))] [(4,.box [.s (mI p_s.Now.Nodes),vi p_s.Now.Next,vi p_s.Now.Cookie,vi p_s.Tick,.s (mB p_s.Since),.s (mA p_s.Pasts),.s (mU p_s.Taken),vi p_s.Next])] Q3 J1 rfl ?_
  refine rt ?_
  cases h
  exact ⟨_,rfl,(Fz.t (.cons (Fz.imm rfl) (.cons Fz.v (.cons Fz.v .nil))))⟩
 refine sk ?_
 refine sg ?_
 refine ⟨_,rfl,?_⟩
 refine wT [(1,vi p_ino),(2,.b 2 0),(4,.b 4 0),(9,vi p_s.Next)] [(2,.box [.s (mI p_s.Now.Nodes),vi p_s.Now.Next,vi p_s.Now.Cookie,vi p_s.Tick,.s (mB p_s.Since),.s (mA p_s.Pasts),.s (mU p_s.Taken),vi p_s.Next]),(4,.box [.v (.slice none 0 0),vi (0),vi (0),vi (0),.v (.slice none 0 0),.v (.slice none 0 0),.v (.slice none 0 0),vi (0)])] Q4 J2 rfl ?_
 refine sq ?_
 obtain ⟨x2,hx2,h⟩:=bindS h
 obtain ⟨hc1,h⟩:=chk_some h
 refine Ok.draw (m:=9) (MD:=⟨[41]⟩) (CH:=⟨[(41,.own 47 3 (mU x2))]⟩) Tryz.tok Tryz.mixed (by kernel_rfl) ?_
 refine ⟨_,rfl,_,⟨_,rfl,rfl⟩,_,rfl,_,rfl,_,rfl,_,⟨_,rfl,rfl⟩,_,rfl,_,rfl,⟨⟨_,(wo_slicesN2 hx2).makes,LeL.refl _⟩,Q0⟩,rowsLen_map (f:=c_api_Shot) (n:=3) (fun _=>rfl) ([(⟨p_s.Next,p_ino,p_s.Tick⟩:api_Shot)]),app_b2 (f:=c_api_Shot) (l:=x2) (l':=[(⟨p_s.Next,p_ino,p_s.Tick⟩:api_Shot)]) hc1,_,(List.map_append (f:=c_api_Shot) (l₁:=x2) (l₂:=[(⟨p_s.Next,p_ino,p_s.Tick⟩:api_Shot)])).symm,_,rfl,?_⟩
 refine wT [(2,.b 2 0),(4,.b 4 0),(9,vi p_s.Next)] [(2,.box [.s (mI p_s.Now.Nodes),vi p_s.Now.Next,vi p_s.Now.Cookie,vi p_s.Tick,.s (mB p_s.Since),.s (mA p_s.Pasts),.o 41,vi p_s.Next]),(41,.own 47 3 (mU (x2++[(⟨p_s.Next,p_ino,p_s.Tick⟩:api_Shot)]))),(4,.box [.v (.slice none 0 0),vi (0),vi (0),vi (0),.v (.slice none 0 0),.v (.slice none 0 0),.v (.slice none 0 0),vi (0)])] Q3 J3 rfl ?_
 refine sg ?_
 obtain ⟨hc2,h⟩:=chk_some h
 refine ⟨_,rfl,(Or.inl ⟨hc2,_,rfl,?_⟩)⟩
 refine wT [(2,.b 2 0),(4,.b 4 0),(9,vi p_s.Next)] [(2,.box [.s (mI p_s.Now.Nodes),vi p_s.Now.Next,vi p_s.Now.Cookie,vi p_s.Tick,.s (mB p_s.Since),.s (mA p_s.Pasts),.o 41,vi (p_s.Next+1)]),(41,.own 47 3 (mU (x2++[(⟨p_s.Next,p_ino,p_s.Tick⟩:api_Shot)]))),(4,.box [.v (.slice none 0 0),vi (0),vi (0),vi (0),.v (.slice none 0 0),.v (.slice none 0 0),.v (.slice none 0 0),vi (0)])] Q3 J3 rfl ?_
 refine sg ?_
 refine ⟨_,rfl,_,rfl,?_⟩
 refine wT [(4,.b 4 0),(5,vi p_s.Next),(6,vi (0))] [(4,.box [.s (mI p_s.Now.Nodes),vi p_s.Now.Next,vi p_s.Now.Cookie,vi p_s.Tick,.s (mB p_s.Since),.s (mA p_s.Pasts),.o 41,vi (p_s.Next+1)]),(41,.own 47 3 (mU (x2++[(⟨p_s.Next,p_ino,p_s.Tick⟩:api_Shot)])))] Q3 J2 rfl ?_
 refine rt ?_
 cases h
 exact ⟨_,rfl,(Fz.t (.cons (Fz.a (.cons Fz.s (.cons Fz.v (.cons Fz.v (.cons Fz.v (.cons Fz.s (.cons Fz.s (.cons (Fz.o rfl) (.cons Fz.v .nil))))))))) (.cons Fz.v (.cons Fz.v .nil))))⟩
theorem w_ref07N16 {p_t} {p_ino} {r} (h:ref07_place p_t p_ino=some r):Pure Tryz.prog 43 [(.a [(.s (mI p_t.Nodes)),(vi p_t.Next),(vi p_t.Cookie)]),(vi p_ino)] (vi r):=by
 refine po Tryz.tok 22 Tryz.func43 (by kernel_rfl) rfl rfl rfl ?_
 unfold ref07_place at h
 refine wE [(0,.a [.s (mI p_t.Nodes),vi p_t.Next,vi p_t.Cookie]),(1,vi p_ino)] Q2 ?_
 refine sg ?_
 refine wT [(1,vi p_ino),(2,.b 2 0)] [(2,.box [.s (mI p_t.Nodes),vi p_t.Next,vi p_t.Cookie])] Q2 J1 rfl ?_
 refine Ok.seqj (fun v1=>⟨Cat.tab [],[]⟩) (fun v1=>ref07N38 v1=some r) ?_ ?_
 ·refine sg ?_
  refine wT [(1,vi p_ino),(2,.b 2 0),(5,vi (0))] [(2,.box [.s (mI p_t.Nodes),vi p_t.Next,vi p_t.Cookie])] Q3 J1 rfl ?_
  refine bl ?_
  refine Ok.loop (fun (s1:Int)=>⟨Cat.tab [(1,vi p_ino),(2,.b 2 0),(5,vi s1)],[(2,.box [.s (mI p_t.Nodes),vi p_t.Next,vi p_t.Cookie])]⟩) (ref07N36 p_t p_ino) (s0:=0) h (wt Q3 ⟨⟨_,rfl,.refl _⟩,Q0⟩ rfl) ?_
  intro s1 y1 hB1 hy1
  unfold ref07N36 at hB1
  refine sq ?_
  refine sg ?_
  refine ⟨_,rfl,_,List.length_map _,fun _=>?_⟩
  refine wT [(1,vi p_ino),(2,.b 2 0),(5,vi s1),(10,vb (decide (s1 < (p_t.Nodes.length:Int))))] [(2,.box [.s (mI p_t.Nodes),vi p_t.Next,vi p_t.Cookie])] Q4 J1 rfl ?_
  refine cn 10 (decide (s1 < (p_t.Nodes.length:Int))) rfl hB1 (fun hb hB1=>?_) fun hb hB1=>?_
  ·refine sk ?_
   refine sq ?_
   refine bl ?_
   refine sg ?_
   obtain ⟨x1,hx1,hB1⟩:=bindS hB1
   refine ⟨_,rfl,_,idx_nat hx1,_,idx_row hx1,_,rfl,?_⟩
   refine wT [(1,vi p_ino),(2,.b 2 0),(5,vi s1),(20,vb (x1.Ino == p_ino))] [(2,.box [.s (mI p_t.Nodes),vi p_t.Next,vi p_t.Cookie])] Q4 J1 rfl ?_
   refine cn 20 (x1.Ino == p_ino) rfl hB1 (fun hb hB1=>?_) fun hb hB1=>?_
   ·refine sg ?_
    refine wE [(4,vi s1)] Q1 ?_
    refine rt ?_
    have hB1:=out_ret hB1 hy1
    cases hB1
    exact Fz.v
   refine sk ?_
   refine rg ?_
   obtain ⟨hc1,hB1⟩:=chk_some hB1
   refine (Or.inl ⟨hc1,?_⟩)
   exact ⟨_,sj hB1,wt Q3 J1 rfl⟩
  refine xt ?_
  have hB1:=out_ret hB1 hy1
  exact ⟨_,hB1,wt Q0 Q0 rfl⟩
 intro v1 h
 unfold ref07N38 at h
 refine sg ?_
 refine wE [(4,vi (-1))] Q1 ?_
 refine rt ?_
 cases h
 exact Fz.v
theorem w_ref07_Get {p_t} {p_ino} {r} (h:ref07_Get p_t p_ino=some r):Pure Tryz.prog 19 [(.a [(.s (mI p_t.Nodes)),(vi p_t.Next),(vi p_t.Cookie)]),(vi p_ino)] (.t [(.a [(vi r.1.Ino),(vi r.1.Kind),(vi r.1.Links),(.s (mD r.1.Data)),(.s (mC r.1.Ents)),(vi r.1.Up)]),(vb r.2)]):=by
 refine po Tryz.tok 18 Tryz.func19 (by kernel_rfl) rfl rfl rfl ?_
 unfold ref07_Get at h
 refine wE [(0,.a [.s (mI p_t.Nodes),vi p_t.Next,vi p_t.Cookie]),(1,vi p_ino)] Q2 ?_
 refine sg ?_
 refine wT [(1,vi p_ino),(2,.b 2 0),(4,.b 4 0)] [(2,.box [.s (mI p_t.Nodes),vi p_t.Next,vi p_t.Cookie]),(4,.box [vi (0),vi (0),vi (0),.v (.slice none 0 0),.v (.slice none 0 0),vi (0)])] Q3 J2 rfl ?_
 refine sg ?_
 obtain ⟨x1,hx1,h⟩:=bindS h
 refine ⟨_,rfl,?_⟩
 refine CallOk.call (w_ref07N16 hx1) (LeL.refl _) ?_
 refine wT [(2,.b 2 0),(4,.b 4 0),(6,vi x1)] [(2,.box [.s (mI p_t.Nodes),vi p_t.Next,vi p_t.Cookie]),(4,.box [vi (0),vi (0),vi (0),.v (.slice none 0 0),.v (.slice none 0 0),vi (0)])] Q3 J2 rfl ?_
 refine sq ?_
 refine sg ?_
 refine wT [(2,.b 2 0),(4,.b 4 0),(6,vi x1),(11,vb (decide (x1 < 0)))] [(2,.box [.s (mI p_t.Nodes),vi p_t.Next,vi p_t.Cookie]),(4,.box [vi (0),vi (0),vi (0),.v (.slice none 0 0),.v (.slice none 0 0),vi (0)])] Q4 J2 rfl ?_
 refine cn 11 (decide (x1 < 0)) rfl h (fun hb h=>?_) fun hb h=>?_
 ·refine sg ?_
  refine ⟨_,rfl,?_⟩
  refine wT [(4,.b 4 0),(5,vb false)] [(4,.box [vi (0),vi (0),vi (0),.v (.slice none 0 0),.v (.slice none 0 0),vi (0)])] Q2 J1 rfl ?_
  refine rt ?_
  cases h
  exact ⟨_,rfl,(Fz.t (.cons (Fz.a (.cons Fz.v (.cons Fz.v (.cons Fz.v (.cons Fz.nil (.cons Fz.nil (.cons Fz.v .nil))))))) (.cons Fz.v .nil)))⟩
 refine sk ?_
 refine sg ?_
 obtain ⟨x2,hx2,h⟩:=bindS h
 refine ⟨_,rfl,_,idx_nat hx2,_,idx_row hx2,_,rfl,_,rfl,?_⟩
 refine wT [(4,.b 4 0),(5,vb true)] [(4,.box [vi x2.Ino,vi x2.Kind,vi x2.Links,.s (mD x2.Data),.s (mC x2.Ents),vi x2.Up])] Q2 J1 rfl ?_
 refine rt ?_
 cases h
 exact ⟨_,rfl,(Fz.t (.cons (Fz.imm rfl) (.cons Fz.v .nil)))⟩
theorem w_ref07_dir {p_t} {p_ino} {r} (h:ref07_dir p_t p_ino=some r):Pure Tryz.prog 88 [(.a [(.s (mI p_t.Nodes)),(vi p_t.Next),(vi p_t.Cookie)]),(vi p_ino)] (.t [(.a [(vi r.1.Ino),(vi r.1.Kind),(vi r.1.Links),(.s (mD r.1.Data)),(.s (mC r.1.Ents)),(vi r.1.Up)]),(vi r.2)]):=by
 refine po Tryz.tok 22 Tryz.func88 (by kernel_rfl) rfl rfl rfl ?_
 unfold ref07_dir at h
 refine wE [(0,.a [.s (mI p_t.Nodes),vi p_t.Next,vi p_t.Cookie]),(1,vi p_ino)] Q2 ?_
 refine sg ?_
 refine wT [(1,vi p_ino),(2,.b 2 0),(4,.b 4 0)] [(2,.box [.s (mI p_t.Nodes),vi p_t.Next,vi p_t.Cookie]),(4,.box [vi (0),vi (0),vi (0),.v (.slice none 0 0),.v (.slice none 0 0),vi (0)])] Q3 J2 rfl ?_
 refine sg ?_
 obtain ⟨x1,hx1,h⟩:=bindS h
 refine ⟨_,rfl,?_⟩
 refine CallOk.call (w_ref07_Get hx1) (LeL.refl _) ?_
 refine ⟨_,rfl,?_⟩
 refine wT [(4,.b 4 0),(6,.b 6 0),(7,vb x1.2)] [(4,.box [vi (0),vi (0),vi (0),.v (.slice none 0 0),.v (.slice none 0 0),vi (0)]),(6,.box [vi x1.1.Ino,vi x1.1.Kind,vi x1.1.Links,.s (mD x1.1.Data),.s (mC x1.1.Ents),vi x1.1.Up])] Q3 J2 rfl ?_
 refine sq ?_
 refine sg ?_
 refine wT [(4,.b 4 0),(6,.b 6 0),(15,vb (!x1.2))] [(4,.box [vi (0),vi (0),vi (0),.v (.slice none 0 0),.v (.slice none 0 0),vi (0)]),(6,.box [vi x1.1.Ino,vi x1.1.Kind,vi x1.1.Links,.s (mD x1.1.Data),.s (mC x1.1.Ents),vi x1.1.Up])] Q3 J2 rfl ?_
 refine cn 15 (!x1.2) rfl h (fun hb h=>?_) fun hb h=>?_
 ·refine sg ?_
  refine ⟨_,rfl,?_⟩
  refine wT [(4,.b 4 0),(5,vi (70))] [(4,.box [vi (0),vi (0),vi (0),.v (.slice none 0 0),.v (.slice none 0 0),vi (0)])] Q2 J1 rfl ?_
  refine rt ?_
  cases h
  exact ⟨_,rfl,(Fz.t (.cons (Fz.a (.cons Fz.v (.cons Fz.v (.cons Fz.v (.cons Fz.nil (.cons Fz.nil (.cons Fz.v .nil))))))) (.cons Fz.v .nil)))⟩
 refine sk ?_
 refine sq ?_
 refine sg ?_
 refine ⟨_,rfl,?_⟩
 refine wT [(4,.b 4 0),(6,.b 6 0),(19,vb (x1.1.Kind != 2))] [(4,.box [vi (0),vi (0),vi (0),.v (.slice none 0 0),.v (.slice none 0 0),vi (0)]),(6,.box [vi x1.1.Ino,vi x1.1.Kind,vi x1.1.Links,.s (mD x1.1.Data),.s (mC x1.1.Ents),vi x1.1.Up])] Q3 J2 rfl ?_
 refine cn 19 (x1.1.Kind != 2) rfl h (fun hb h=>?_) fun hb h=>?_
 ·refine sg ?_
  refine ⟨_,rfl,?_⟩
  refine wT [(4,.b 4 0),(5,vi (73))] [(4,.box [vi (0),vi (0),vi (0),.v (.slice none 0 0),.v (.slice none 0 0),vi (0)])] Q2 J1 rfl ?_
  refine rt ?_
  cases h
  exact ⟨_,rfl,(Fz.t (.cons (Fz.a (.cons Fz.v (.cons Fz.v (.cons Fz.v (.cons Fz.nil (.cons Fz.nil (.cons Fz.v .nil))))))) (.cons Fz.v .nil)))⟩
 refine sk ?_
 refine sg ?_
 refine ⟨_,rfl,_,rfl,?_⟩
 refine wT [(4,.b 4 0),(5,vi (0))] [(4,.box [vi x1.1.Ino,vi x1.1.Kind,vi x1.1.Links,.s (mD x1.1.Data),.s (mC x1.1.Ents),vi x1.1.Up])] Q2 J1 rfl ?_
 refine rt ?_
 cases h
 exact ⟨_,rfl,(Fz.t (.cons (Fz.imm rfl) (.cons Fz.v .nil)))⟩
theorem w_ref06N1 {p_s} {r} (h:ref06_Right p_s=some r):Pure Tryz.prog 89 [(vs p_s)] (vb r):=by
 refine po Tryz.tok 36 Tryz.func89 (by kernel_rfl) rfl rfl rfl ?_
 unfold ref06_Right at h
 refine wE [(0,vs p_s)] Q1 ?_
 refine sg ?_
 refine wE [(0,vs p_s)] Q1 ?_
 refine sq ?_
 obtain ⟨v1,hv1,h⟩:=bindS h
 refine Ok.seqw ⟨Cat.tab [(0,vs p_s),(19,vb v1)],[]⟩ ?_ ?_
 ·refine rg ?_
  refine ⟨_,str_size _,?_⟩
  obtain ⟨c1,hg1,hv1⟩:=bindS hv1
  refine Br.itf hg1 (fun hb hg1=>?_) fun hb hg1=>?_
  ·cases hg1
   obtain ⟨c2,hg2,hv1⟩:=bindS hv1
   replace hg2:=iteT hg2
   cases hg2
   obtain ⟨c3,hg3,hv1⟩:=bindS hv1
   replace hg3:=iteT hg3
   cases hg3
   cases hv1
   exact wt Q2 Q0 rfl
  refine ⟨_,str_size _,?_⟩
  cases hg1
  obtain ⟨c2,hg4,hv1⟩:=bindS hv1
  refine Br.itf hg4 (fun hb hg4=>?_) fun hb hg4=>?_
  ·cases hg4
   obtain ⟨c3,hg5,hv1⟩:=bindS hv1
   replace hg5:=iteT hg5
   cases hg5
   cases hv1
   exact wt Q2 Q0 rfl
  refine ⟨_,str_eql _ _,?_⟩
  cases hg4
  obtain ⟨c3,hg6,hv1⟩:=bindS hv1
  refine Br.itf hg6 (fun hb hg6=>?_) fun hb hg6=>?_
  ·cases hg6
   cases hv1
   exact wt Q2 Q0 rfl
  refine ⟨_,str_eql _ _,?_⟩
  cases hg6
  cases hv1
  exact wt Q2 Q0 rfl
 refine cn 19 (v1) rfl h (fun hb h=>?_) fun hb h=>?_
 ·refine sg ?_
  refine wE [(2,vb false)] Q1 ?_
  refine rt ?_
  cases h
  exact Fz.v
 refine sk ?_
 refine Ok.seqj (fun v2=>⟨Cat.tab [],[]⟩) (fun v2=>ref06N4 v2=some r) ?_ ?_
 ·refine sg ?_
  refine wE [(0,vs p_s),(3,vi (0))] Q2 ?_
  refine bl ?_
  refine Ok.loop (fun (s1:Int)=>⟨Cat.tab [(0,vs p_s),(3,vi s1)],[]⟩) (ref06N2 p_s) (s0:=0) h (wt Q2 Q0 rfl) ?_
  intro s1 y1 hB1 hy1
  unfold ref06N2 at hB1
  refine sq ?_
  refine sg ?_
  refine ⟨_,str_size _,?_⟩
  refine wE [(0,vs p_s),(3,vi s1),(23,vb (decide (s1 < (p_s.length:Int))))] Q3 ?_
  refine cn 23 (decide (s1 < (p_s.length:Int))) rfl hB1 (fun hb hB1=>?_) fun hb hB1=>?_
  ·refine sk ?_
   refine sq ?_
   refine bl ?_
   obtain ⟨v3,hv3,hB1⟩:=bindS hB1
   refine Ok.seqw ⟨Cat.tab [(0,vs p_s),(3,vi s1),(35,vb v3)],[]⟩ ?_ ?_
   ·refine rg ?_
    obtain ⟨x1,hx1,hv3⟩:=bindS hv3
    refine ⟨_,idx_nat hx1,_,idx_get hx1,?_⟩
    obtain ⟨c4,hg7,hv3⟩:=bindS hv3
    refine Br.itf hg7 (fun hb hg7=>?_) fun hb hg7=>?_
    ·cases hg7
     cases hv3
     exact wt Q3 Q0 rfl
    obtain ⟨x2,hx2,hg7⟩:=bindS hg7
    refine ⟨_,idx_nat hx2,_,idx_get hx2,?_⟩
    cases hg7
    cases hv3
    exact wt Q3 Q0 rfl
   refine cn 35 (v3) rfl hB1 (fun hb hB1=>?_) fun hb hB1=>?_
   ·refine sg ?_
    refine wE [(2,vb false)] Q1 ?_
    refine rt ?_
    have hB1:=out_ret hB1 hy1
    cases hB1
    exact Fz.v
   refine sk ?_
   refine rg ?_
   obtain ⟨hc1,hB1⟩:=chk_some hB1
   refine (Or.inl ⟨hc1,?_⟩)
   exact ⟨_,sj hB1,wt Q2 Q0 rfl⟩
  refine xt ?_
  have hB1:=out_ret hB1 hy1
  exact ⟨_,hB1,wt Q0 Q0 rfl⟩
 intro v2 h
 unfold ref06N4 at h
 refine sg ?_
 refine wE [(2,vb true)] Q1 ?_
 refine rt ?_
 cases h
 exact Fz.v
theorem w_ref07N15 {p_n} {p_name} {r} (h:ref07_named p_n p_name=some r):Pure Tryz.prog 90 [(.a [(vi p_n.Ino),(vi p_n.Kind),(vi p_n.Links),(.s (mD p_n.Data)),(.s (mC p_n.Ents)),(vi p_n.Up)]),(vs p_name)] (vi r):=by
 refine po Tryz.tok 22 Tryz.func90 (by kernel_rfl) rfl rfl rfl ?_
 unfold ref07_named at h
 refine wE [(0,.a [vi p_n.Ino,vi p_n.Kind,vi p_n.Links,.s (mD p_n.Data),.s (mC p_n.Ents),vi p_n.Up]),(1,vs p_name)] Q2 ?_
 refine sg ?_
 refine wT [(1,vs p_name),(2,.b 2 0)] [(2,.box [vi p_n.Ino,vi p_n.Kind,vi p_n.Links,.s (mD p_n.Data),.s (mC p_n.Ents),vi p_n.Up])] Q2 J1 rfl ?_
 refine Ok.seqj (fun v1=>⟨Cat.tab [],[]⟩) (fun v1=>ref07N32 v1=some r) ?_ ?_
 ·refine sg ?_
  refine wT [(1,vs p_name),(2,.b 2 0),(5,vi (0))] [(2,.box [vi p_n.Ino,vi p_n.Kind,vi p_n.Links,.s (mD p_n.Data),.s (mC p_n.Ents),vi p_n.Up])] Q3 J1 rfl ?_
  refine bl ?_
  refine Ok.loop (fun (s1:Int)=>⟨Cat.tab [(1,vs p_name),(2,.b 2 0),(5,vi s1)],[(2,.box [vi p_n.Ino,vi p_n.Kind,vi p_n.Links,.s (mD p_n.Data),.s (mC p_n.Ents),vi p_n.Up])]⟩) (ref07N30 p_n p_name) (s0:=0) h (wt Q3 ⟨⟨_,rfl,.refl _⟩,Q0⟩ rfl) ?_
  intro s1 y1 hB1 hy1
  unfold ref07N30 at hB1
  refine sq ?_
  refine sg ?_
  refine ⟨_,rfl,_,List.length_map _,fun _=>?_⟩
  refine wT [(1,vs p_name),(2,.b 2 0),(5,vi s1),(10,vb (decide (s1 < (p_n.Ents.length:Int))))] [(2,.box [vi p_n.Ino,vi p_n.Kind,vi p_n.Links,.s (mD p_n.Data),.s (mC p_n.Ents),vi p_n.Up])] Q4 J1 rfl ?_
  refine cn 10 (decide (s1 < (p_n.Ents.length:Int))) rfl hB1 (fun hb hB1=>?_) fun hb hB1=>?_
  ·refine sk ?_
   refine sq ?_
   refine bl ?_
   refine sg ?_
   obtain ⟨x1,hx1,hB1⟩:=bindS hB1
   refine ⟨_,rfl,_,idx_nat hx1,_,idx_row hx1,_,rfl,_,str_eql _ _,?_⟩
   refine wT [(1,vs p_name),(2,.b 2 0),(5,vi s1),(20,vb (x1.Name == p_name))] [(2,.box [vi p_n.Ino,vi p_n.Kind,vi p_n.Links,.s (mD p_n.Data),.s (mC p_n.Ents),vi p_n.Up])] Q4 J1 rfl ?_
   refine cn 20 (x1.Name == p_name) rfl hB1 (fun hb hB1=>?_) fun hb hB1=>?_
   ·refine sg ?_
    refine wE [(4,vi s1)] Q1 ?_
    refine rt ?_
    have hB1:=out_ret hB1 hy1
    cases hB1
    exact Fz.v
   refine sk ?_
   refine rg ?_
   obtain ⟨hc1,hB1⟩:=chk_some hB1
   refine (Or.inl ⟨hc1,?_⟩)
   exact ⟨_,sj hB1,wt Q3 J1 rfl⟩
  refine xt ?_
  have hB1:=out_ret hB1 hy1
  exact ⟨_,hB1,wt Q0 Q0 rfl⟩
 intro v1 h
 unfold ref07N32 at h
 refine sg ?_
 refine wE [(4,vi (-1))] Q1 ?_
 refine rt ?_
 cases h
 exact Fz.v
theorem w_ref07N9 {p_t} {p_ino} {r} (h:ref07_depth p_t p_ino=some r):Pure Tryz.prog 41 [(.a [(.s (mI p_t.Nodes)),(vi p_t.Next),(vi p_t.Cookie)]),(vi p_ino)] (vi r):=by
 refine po Tryz.tok 25 Tryz.func41 (by kernel_rfl) rfl rfl rfl ?_
 unfold ref07_depth at h
 refine wE [(0,.a [.s (mI p_t.Nodes),vi p_t.Next,vi p_t.Cookie]),(1,vi p_ino)] Q2 ?_
 refine sg ?_
 refine wT [(1,vi p_ino),(2,.b 2 0)] [(2,.box [.s (mI p_t.Nodes),vi p_t.Next,vi p_t.Cookie])] Q2 J1 rfl ?_
 refine sg ?_
 refine wT [(1,vi p_ino),(2,.b 2 0),(5,vi (0))] [(2,.box [.s (mI p_t.Nodes),vi p_t.Next,vi p_t.Cookie])] Q3 J1 rfl ?_
 obtain ⟨v1,hv1,h⟩:=bindS h
 refine Ok.seqw ⟨Cat.tab [(5,vi v1)],[]⟩ ?_ ?_
 ·refine bl ?_
  refine Ok.loop (fun (s1:Int×Int)=>⟨Cat.tab [(1,vi s1.1),(2,.b 2 0),(5,vi s1.2)],[(2,.box [.s (mI p_t.Nodes),vi p_t.Next,vi p_t.Cookie])]⟩) (ref07N14 p_t) (s0:=(p_ino,0)) hv1 (wt Q3 ⟨⟨_,rfl,.refl _⟩,Q0⟩ rfl) ?_
  intro s1 y1 hB1 hy1
  unfold ref07N14 at hB1
  refine sq ?_
  obtain ⟨v2,hv2,hB1⟩:=bindS hB1
  refine Ok.seqw ⟨Cat.tab [(1,vi s1.1),(2,.b 2 0),(5,vi s1.2),(13,vb v2)],[(2,.box [.s (mI p_t.Nodes),vi p_t.Next,vi p_t.Cookie])]⟩ ?_ ?_
  ·refine rg ?_
   obtain ⟨c1,hg1,hv2⟩:=bindS hv2
   refine Br.ite hg1 (fun hb hg1=>?_) fun hb hg1=>?_
   ·cases hg1
    cases hv2
    exact wt Q4 J1 rfl
   cases hg1
   cases hv2
   exact wt Q4 J1 rfl
  refine cn 13 (v2) rfl hB1 (fun hb hB1=>?_) fun hb hB1=>?_
  ·refine sk ?_
   refine bl ?_
   refine sg ?_
   obtain ⟨x1,hx1,hB1⟩:=bindS hB1
   refine ⟨_,rfl,?_⟩
   refine CallOk.call (w_ref07_Get hx1) (LeL.refl _) ?_
   refine ⟨_,rfl,?_⟩
   refine wT [(2,.b 2 0),(5,vi s1.2),(6,.b 6 0)] [(2,.box [.s (mI p_t.Nodes),vi p_t.Next,vi p_t.Cookie]),(6,.box [vi x1.1.Ino,vi x1.1.Kind,vi x1.1.Links,.s (mD x1.1.Data),.s (mC x1.1.Ents),vi x1.1.Up])] Q3 J2 rfl ?_
   refine sg ?_
   refine ⟨_,rfl,?_⟩
   refine wT [(1,vi x1.1.Up),(2,.b 2 0),(5,vi s1.2)] [(2,.box [.s (mI p_t.Nodes),vi p_t.Next,vi p_t.Cookie])] Q3 J1 rfl ?_
   refine rg ?_
   obtain ⟨hc1,hB1⟩:=chk_some hB1
   refine (Or.inl ⟨hc1,?_⟩)
   exact ⟨_,sj hB1,wt Q3 J1 rfl⟩
  refine xt ?_
  have hB1:=out_ret hB1 hy1
  cases hB1
  exact wt Q1 Q0 rfl
 refine sg ?_
 refine wE [(4,vi v1)] Q1 ?_
 refine rt ?_
 cases h
 exact Fz.v
theorem w_ref07N12 {p_t} {p_n} {r} (h:ref07_full p_t p_n=some r):Pure Tryz.prog 98 [(.a [(.s (mI p_t.Nodes)),(vi p_t.Next),(vi p_t.Cookie)]),(.a [(vi p_n.Ino),(vi p_n.Kind),(vi p_n.Links),(.s (mD p_n.Data)),(.s (mC p_n.Ents)),(vi p_n.Up)])] (vb r):=by
 refine po Tryz.tok 21 Tryz.func98 (by kernel_rfl) rfl rfl rfl ?_
 unfold ref07_full at h
 refine wE [(0,.a [.s (mI p_t.Nodes),vi p_t.Next,vi p_t.Cookie]),(1,.a [vi p_n.Ino,vi p_n.Kind,vi p_n.Links,.s (mD p_n.Data),.s (mC p_n.Ents),vi p_n.Up])] Q2 ?_
 refine sg ?_
 refine wT [(2,.b 2 0),(3,.b 3 0)] [(2,.box [.s (mI p_t.Nodes),vi p_t.Next,vi p_t.Cookie]),(3,.box [vi p_n.Ino,vi p_n.Kind,vi p_n.Links,.s (mD p_n.Data),.s (mC p_n.Ents),vi p_n.Up])] Q2 J2 rfl ?_
 obtain ⟨v1,hv1,h⟩:=bindS h
 refine Ok.seqw ⟨Cat.tab [(4,vb v1)],[]⟩ ?_ ?_
 ·refine rg ?_
  refine ⟨_,rfl,_,List.length_map _,fun _=>?_⟩
  obtain ⟨c1,hg1,hv1⟩:=bindS hv1
  refine Br.itf hg1 (fun hb hg1=>?_) fun hb hg1=>?_
  ·cases hg1
   obtain ⟨c2,hg2,hv1⟩:=bindS hv1
   replace hg2:=iteT hg2
   cases hg2
   cases hv1
   exact wt Q1 Q0 rfl
  obtain ⟨x1,hx1,hg1⟩:=bindS hg1
  refine ⟨_,rfl,_,rfl,?_⟩
  refine CallOk.call (w_ref07N9 hx1) (LeL.refl _) ?_
  cases hg1
  obtain ⟨c2,hg3,hv1⟩:=bindS hv1
  refine Br.itf hg3 (fun hb hg3=>?_) fun hb hg3=>?_
  ·cases hg3
   cases hv1
   exact wt Q1 Q0 rfl
  refine ⟨_,rfl,?_⟩
  cases hg3
  cases hv1
  exact wt Q1 Q0 rfl
 refine rt ?_
 cases h
 exact Fz.v
theorem w_ref07N10 {p_t} {p_ino} {p_name} {r} (h:ref07_enter p_t p_ino p_name=some r):Pure Tryz.prog 62 [(.a [(.s (mI p_t.Nodes)),(vi p_t.Next),(vi p_t.Cookie)]),(vi p_ino),(vs p_name)] (vi r):=by
 refine po Tryz.tok 28 Tryz.func62 (by kernel_rfl) rfl rfl rfl ?_
 unfold ref07_enter at h
 refine wE [(0,.a [.s (mI p_t.Nodes),vi p_t.Next,vi p_t.Cookie]),(1,vi p_ino),(2,vs p_name)] Q3 ?_
 refine sg ?_
 refine wT [(1,vi p_ino),(2,vs p_name),(3,.b 3 0)] [(3,.box [.s (mI p_t.Nodes),vi p_t.Next,vi p_t.Cookie])] Q3 J1 rfl ?_
 refine sg ?_
 obtain ⟨x1,hx1,h⟩:=bindS h
 refine ⟨_,rfl,?_⟩
 refine CallOk.call (w_ref07_dir hx1) (LeL.refl _) ?_
 refine ⟨_,rfl,?_⟩
 refine wT [(2,vs p_name),(3,.b 3 0),(7,.b 7 0),(8,vi x1.2)] [(3,.box [.s (mI p_t.Nodes),vi p_t.Next,vi p_t.Cookie]),(7,.box [vi x1.1.Ino,vi x1.1.Kind,vi x1.1.Links,.s (mD x1.1.Data),.s (mC x1.1.Ents),vi x1.1.Up])] Q4 J2 rfl ?_
 refine sq ?_
 refine sg ?_
 refine wT [(2,vs p_name),(3,.b 3 0),(7,.b 7 0),(8,vi x1.2),(16,vb (x1.2 != 0))] [(3,.box [.s (mI p_t.Nodes),vi p_t.Next,vi p_t.Cookie]),(7,.box [vi x1.1.Ino,vi x1.1.Kind,vi x1.1.Links,.s (mD x1.1.Data),.s (mC x1.1.Ents),vi x1.1.Up])] Q5 J2 rfl ?_
 refine cn 16 (x1.2 != 0) rfl h (fun hb h=>?_) fun hb h=>?_
 ·refine sg ?_
  refine wE [(6,vi x1.2)] Q1 ?_
  refine rt ?_
  cases h
  exact Fz.v
 refine sk ?_
 refine sq ?_
 refine sg ?_
 obtain ⟨x2,hx2,h⟩:=bindS h
 refine CallOk.call (w_ref06N1 hx2) (LeL.refl _) ?_
 refine wT [(2,vs p_name),(3,.b 3 0),(7,.b 7 0),(20,vb (!x2))] [(3,.box [.s (mI p_t.Nodes),vi p_t.Next,vi p_t.Cookie]),(7,.box [vi x1.1.Ino,vi x1.1.Kind,vi x1.1.Links,.s (mD x1.1.Data),.s (mC x1.1.Ents),vi x1.1.Up])] Q4 J2 rfl ?_
 refine cn 20 (!x2) rfl h (fun hb h=>?_) fun hb h=>?_
 ·refine sg ?_
  refine wE [(6,vi (60))] Q1 ?_
  refine rt ?_
  cases h
  exact Fz.v
 refine sk ?_
 refine sq ?_
 refine sg ?_
 obtain ⟨x3,hx3,h⟩:=bindS h
 refine ⟨_,rfl,?_⟩
 refine CallOk.call (w_ref07N15 hx3) (LeL.refl _) ?_
 refine wT [(3,.b 3 0),(7,.b 7 0),(24,vb (decide (x3≥0)))] [(3,.box [.s (mI p_t.Nodes),vi p_t.Next,vi p_t.Cookie]),(7,.box [vi x1.1.Ino,vi x1.1.Kind,vi x1.1.Links,.s (mD x1.1.Data),.s (mC x1.1.Ents),vi x1.1.Up])] Q3 J2 rfl ?_
 refine cn 24 (decide (x3≥0)) rfl h (fun hb h=>?_) fun hb h=>?_
 ·refine sg ?_
  refine wE [(6,vi (71))] Q1 ?_
  refine rt ?_
  cases h
  exact Fz.v
 refine sk ?_
 refine sq ?_
 refine sg ?_
 obtain ⟨x4,hx4,h⟩:=bindS h
 refine ⟨_,rfl,_,rfl,?_⟩
 refine CallOk.call (w_ref07N12 hx4) (LeL.refl _) ?_
 refine wE [(27,vb x4)] Q1 ?_
 refine cn 27 (x4) rfl h (fun hb h=>?_) fun hb h=>?_
 ·refine sg ?_
  refine wE [(6,vi (76))] Q1 ?_
  refine rt ?_
  cases h
  exact Fz.v
 refine sk ?_
 refine sg ?_
 refine wE [(6,vi (0))] Q1 ?_
 refine rt ?_
 cases h
 exact Fz.v
theorem w_ref07N18 {p_t} {p_n} {r} (h:ref07_with p_t p_n=some r):Pure Tryz.prog 64 [(.a [(.s (mI p_t.Nodes)),(vi p_t.Next),(vi p_t.Cookie)]),(.a [(vi p_n.Ino),(vi p_n.Kind),(vi p_n.Links),(.s (mD p_n.Data)),(.s (mC p_n.Ents)),(vi p_n.Up)])] (.a [(.s (mI r.Nodes)),(vi r.Next),(vi r.Cookie)]):=by
 refine po Tryz.tok 58 Tryz.func64 (by kernel_rfl) rfl rfl rfl ?_
 unfold ref07_with at h
 refine wE [(0,.a [.s (mI p_t.Nodes),vi p_t.Next,vi p_t.Cookie]),(1,.a [vi p_n.Ino,vi p_n.Kind,vi p_n.Links,.s (mD p_n.Data),.s (mC p_n.Ents),vi p_n.Up])] Q2 ?_
 refine sg ?_
 refine wT [(2,.b 2 0),(3,.b 3 0),(4,.b 4 0)] [(2,.box [.s (mI p_t.Nodes),vi p_t.Next,vi p_t.Cookie]),(3,.box [vi p_n.Ino,vi p_n.Kind,vi p_n.Links,.s (mD p_n.Data),.s (mC p_n.Ents),vi p_n.Up]),(4,.box [.v (.slice none 0 0),vi (0),vi (0)])] Q3 J3 rfl ?_
 refine sg ?_
 refine wT [(2,.b 2 0),(3,.b 3 0),(4,.b 4 0),(5,.v (.slice none 0 0))] [(2,.box [.s (mI p_t.Nodes),vi p_t.Next,vi p_t.Cookie]),(3,.box [vi p_n.Ino,vi p_n.Kind,vi p_n.Links,.s (mD p_n.Data),.s (mC p_n.Ents),vi p_n.Up]),(4,.box [.v (.slice none 0 0),vi (0),vi (0)])] Q4 J3 rfl ?_
 refine sg ?_
 refine wT [(2,.b 2 0),(3,.b 3 0),(4,.b 4 0),(5,.v (.slice none 0 0)),(6,vb false)] [(2,.box [.s (mI p_t.Nodes),vi p_t.Next,vi p_t.Cookie]),(3,.box [vi p_n.Ino,vi p_n.Kind,vi p_n.Links,.s (mD p_n.Data),.s (mC p_n.Ents),vi p_n.Up]),(4,.box [.v (.slice none 0 0),vi (0),vi (0)])] Q5 J3 rfl ?_
 obtain ⟨v1,hv1,h⟩:=bindS h
 refine Ok.seqw ⟨Cat.tab [(2,.b 2 0),(3,.b 3 0),(4,.b 4 0),(5,.o 31),(6,vb v1.1)],[(2,.box [.s (mI p_t.Nodes),vi p_t.Next,vi p_t.Cookie]),(3,.box [vi p_n.Ino,vi p_n.Kind,vi p_n.Links,.s (mD p_n.Data),.s (mC p_n.Ents),vi p_n.Up]),(4,.box [.v (.slice none 0 0),vi (0),vi (0)]),(31,.own 55 6 (mI v1.2))]⟩ ?_ ?_
 ·refine sg ?_
  refine wT [(2,.b 2 0),(3,.b 3 0),(4,.b 4 0),(5,.v (.slice none 0 0)),(6,vb false),(7,vi (0))] [(2,.box [.s (mI p_t.Nodes),vi p_t.Next,vi p_t.Cookie]),(3,.box [vi p_n.Ino,vi p_n.Kind,vi p_n.Links,.s (mD p_n.Data),.s (mC p_n.Ents),vi p_n.Up]),(4,.box [.v (.slice none 0 0),vi (0),vi (0)])] Q6 J3 rfl ?_
  refine bl ?_
  refine Ok.loop (fun (s1:Bool×Int×(List api_Node))=>⟨Cat.tab [(2,.b 2 0),(3,.b 3 0),(4,.b 4 0),(5,.o 31),(6,vb s1.1),(7,vi s1.2.1)],[(2,.box [.s (mI p_t.Nodes),vi p_t.Next,vi p_t.Cookie]),(3,.box [vi p_n.Ino,vi p_n.Kind,vi p_n.Links,.s (mD p_n.Data),.s (mC p_n.Ents),vi p_n.Up]),(4,.box [.v (.slice none 0 0),vi (0),vi (0)]),(31,.own 55 6 (mI s1.2.2))]⟩) (ref07N42 p_t p_n) (s0:=(false,0,[])) hv1 ((Wk.own0 (t:=5) (id:=31) (E:=55) (K:=6) rfl rfl).trans (wt Q6 ⟨⟨_,rfl,.refl _⟩,⟨_,rfl,.refl _⟩,⟨_,rfl,.refl _⟩,⟨_,rfl,.refl _⟩,Q0⟩ rfl)) ?_
  intro s1 y1 hB1 hy1
  unfold ref07N42 at hB1
  refine sq ?_
  refine sg ?_
  refine ⟨_,rfl,_,List.length_map _,fun _=>?_⟩
  refine wT [(2,.b 2 0),(3,.b 3 0),(4,.b 4 0),(5,.o 31),(6,vb s1.1),(7,vi s1.2.1),(12,vb (decide (s1.2.1 < (p_t.Nodes.length:Int))))] [(2,.box [.s (mI p_t.Nodes),vi p_t.Next,vi p_t.Cookie]),(3,.box [vi p_n.Ino,vi p_n.Kind,vi p_n.Links,.s (mD p_n.Data),.s (mC p_n.Ents),vi p_n.Up]),(4,.box [.v (.slice none 0 0),vi (0),vi (0)]),(31,.own 55 6 (mI s1.2.2))] Q7 J4 rfl ?_
  refine cn 12 (decide (s1.2.1 < (p_t.Nodes.length:Int))) rfl hB1 (fun hb hB1=>?_) fun hb hB1=>?_
  ·refine sk ?_
   obtain ⟨v2,hv2,hB1⟩:=bindS hB1
   refine Ok.seqw ⟨Cat.tab [(2,.b 2 0),(3,.b 3 0),(4,.b 4 0),(5,.o 31),(6,vb v2.1),(7,vi s1.2.1)],[(2,.box [.s (mI p_t.Nodes),vi p_t.Next,vi p_t.Cookie]),(3,.box [vi p_n.Ino,vi p_n.Kind,vi p_n.Links,.s (mD p_n.Data),.s (mC p_n.Ents),vi p_n.Up]),(4,.box [.v (.slice none 0 0),vi (0),vi (0)]),(31,.own 55 6 (mI v2.2))]⟩ ?_ ?_
   ·refine bl ?_
    obtain ⟨v3,hv3,hv2⟩:=bindS hv2
    refine Ok.seqw ⟨Cat.tab [(2,.b 2 0),(3,.b 3 0),(4,.b 4 0),(5,.o 31),(6,vb v3.1),(7,vi s1.2.1)],[(2,.box [.s (mI p_t.Nodes),vi p_t.Next,vi p_t.Cookie]),(3,.box [vi p_n.Ino,vi p_n.Kind,vi p_n.Links,.s (mD p_n.Data),.s (mC p_n.Ents),vi p_n.Up]),(4,.box [.v (.slice none 0 0),vi (0),vi (0)]),(31,.own 55 6 (mI v3.2))]⟩ ?_ ?_
    ·obtain ⟨v4,hv4,hv3⟩:=bindS hv3
     refine Ok.seqw ⟨Cat.tab [(2,.b 2 0),(3,.b 3 0),(4,.b 4 0),(5,.o 31),(6,vb s1.1),(7,vi s1.2.1),(27,vb v4)],[(2,.box [.s (mI p_t.Nodes),vi p_t.Next,vi p_t.Cookie]),(3,.box [vi p_n.Ino,vi p_n.Kind,vi p_n.Links,.s (mD p_n.Data),.s (mC p_n.Ents),vi p_n.Up]),(4,.box [.v (.slice none 0 0),vi (0),vi (0)]),(31,.own 55 6 (mI s1.2.2))]⟩ ?_ ?_
     ·refine Ok.draw (m:=13) (MD:=⟨[]⟩) (CH:=⟨[]⟩) Tryz.tok Tryz.mixed (by kernel_rfl) ?_
      refine ⟨_,rfl,_,rfl,_,rfl,?_⟩
      obtain ⟨c1,hg1,hv4⟩:=bindS hv4
      refine Br.ite hg1 (fun hb hg1=>?_) fun hb hg1=>?_
      ·obtain ⟨x1,hx1,hg1⟩:=bindS hg1
       refine ⟨_,rfl,_,⟨_,rfl,rfl⟩,_,rfl,_,⟨_,idx_nat hx1,_,idx_row hx1,rfl⟩,_,rfl,_,⟨_,rfl,rfl⟩,_,rfl,_,⟨_,rfl,rfl⟩,_,rfl,?_⟩
       cases hg1
       refine ⟨_,rfl,?_⟩
       refine ⟨Q0,?_⟩
       cases hv4
       exact wt Q7 J4 rfl
      cases hg1
      refine ⟨_,rfl,?_⟩
      refine ⟨Q0,?_⟩
      cases hv4
      exact wt Q7 J4 rfl
     refine cn 27 (v4) rfl hv3 (fun hb hv3=>?_) fun hb hv3=>?_
     ·refine sg ?_
      obtain ⟨hc1,hv3⟩:=chk_some hv3
      refine ⟨_,rfl,Or.inl ⟨rowsLen_map (f:=c_api_Node) (n:=6) (fun _=>rfl) ([p_n]),app_b2 (f:=c_api_Node) (l:=s1.2.2) (l':=[p_n]) hc1,_,(List.map_append (f:=c_api_Node) (l₁:=s1.2.2) (l₂:=[p_n])).symm,?_⟩⟩
      refine wT [(2,.b 2 0),(3,.b 3 0),(4,.b 4 0),(5,.o 31),(7,vi s1.2.1)] [(2,.box [.s (mI p_t.Nodes),vi p_t.Next,vi p_t.Cookie]),(3,.box [vi p_n.Ino,vi p_n.Kind,vi p_n.Links,.s (mD p_n.Data),.s (mC p_n.Ents),vi p_n.Up]),(4,.box [.v (.slice none 0 0),vi (0),vi (0)]),(31,.own 55 6 (mI (s1.2.2++[p_n])))] Q5 J4 rfl ?_
      refine rg ?_
      cases hv3
      exact wt Q6 J4 rfl
     refine sk ?_
     cases hv3
     exact wt Q6 J4 rfl
    refine sq ?_
    refine Ok.draw (m:=9) (MD:=⟨[]⟩) (CH:=⟨[]⟩) Tryz.tok Tryz.mixed (by kernel_rfl) ?_
    obtain ⟨x2,hx2,hv2⟩:=bindS hv2
    refine ⟨_,rfl,_,⟨_,rfl,rfl⟩,_,rfl,_,⟨_,idx_nat hx2,_,idx_row hx2,rfl⟩,_,rfl,_,⟨_,rfl,rfl⟩,_,rfl,_,⟨_,rfl,rfl⟩,_,rfl,Q0,?_⟩
    refine wT [(2,.b 2 0),(3,.b 3 0),(4,.b 4 0),(5,.o 31),(6,vb v3.1),(7,vi s1.2.1),(40,vb (x2.Ino != p_n.Ino))] [(2,.box [.s (mI p_t.Nodes),vi p_t.Next,vi p_t.Cookie]),(3,.box [vi p_n.Ino,vi p_n.Kind,vi p_n.Links,.s (mD p_n.Data),.s (mC p_n.Ents),vi p_n.Up]),(4,.box [.v (.slice none 0 0),vi (0),vi (0)]),(31,.own 55 6 (mI v3.2))] Q7 J4 rfl ?_
    refine cn 40 (x2.Ino != p_n.Ino) rfl hv2 (fun hb hv2=>?_) fun hb hv2=>?_
    ·refine rg ?_
     obtain ⟨x3,hx3,hv2⟩:=bindS hv2
     obtain ⟨hc2,hv2⟩:=chk_some hv2
     refine ⟨_,rfl,_,idx_nat hx3,_,idx_row hx3,_,rfl,Or.inl ⟨rowsLen_map (f:=c_api_Node) (n:=6) (fun _=>rfl) ([x3]),app_b2 (f:=c_api_Node) (l:=v3.2) (l':=[x3]) hc2,_,(List.map_append (f:=c_api_Node) (l₁:=v3.2) (l₂:=[x3])).symm,?_⟩⟩
     cases hv2
     exact wt Q6 J4 rfl
    refine sk ?_
    cases hv2
    exact wt Q6 J4 rfl
   refine rg ?_
   obtain ⟨hc3,hB1⟩:=chk_some hB1
   refine (Or.inl ⟨hc3,?_⟩)
   exact ⟨_,sj hB1,wt Q6 J4 rfl⟩
  refine xt ?_
  have hB1:=out_ret hB1 hy1
  cases hB1
  exact wt Q5 J4 rfl
 obtain ⟨v5,hv5,h⟩:=bindS h
 refine Ok.seqw ⟨Cat.tab [(2,.b 2 0),(4,.b 4 0),(5,.o 31)],[(2,.box [.s (mI p_t.Nodes),vi p_t.Next,vi p_t.Cookie]),(4,.box [.v (.slice none 0 0),vi (0),vi (0)]),(31,.own 55 6 (mI v5))]⟩ ?_ ?_
 ·refine sg ?_
  refine wT [(2,.b 2 0),(3,.b 3 0),(4,.b 4 0),(5,.o 31),(50,vb (!v1.1))] [(2,.box [.s (mI p_t.Nodes),vi p_t.Next,vi p_t.Cookie]),(3,.box [vi p_n.Ino,vi p_n.Kind,vi p_n.Links,.s (mD p_n.Data),.s (mC p_n.Ents),vi p_n.Up]),(4,.box [.v (.slice none 0 0),vi (0),vi (0)]),(31,.own 55 6 (mI v1.2))] Q5 J4 rfl ?_
  refine cn 50 (!v1.1) rfl hv5 (fun hb hv5=>?_) fun hb hv5=>?_
  ·refine rg ?_
   obtain ⟨hc4,hv5⟩:=chk_some hv5
   refine ⟨_,rfl,Or.inl ⟨rowsLen_map (f:=c_api_Node) (n:=6) (fun _=>rfl) ([p_n]),app_b2 (f:=c_api_Node) (l:=v1.2) (l':=[p_n]) hc4,_,(List.map_append (f:=c_api_Node) (l₁:=v1.2) (l₂:=[p_n])).symm,?_⟩⟩
   cases hv5
   exact wt Q3 J3 rfl
  refine sk ?_
  cases hv5
  exact wt Q3 J3 rfl
 refine sg ?_
 refine ⟨_,rfl,?_⟩
 refine wT [(2,.b 2 0),(4,.b 4 0)] [(2,.box [.o 31,vi p_t.Next,vi p_t.Cookie]),(31,.own 55 6 (mI v5)),(4,.box [.v (.slice none 0 0),vi (0),vi (0)])] Q2 J3 rfl ?_
 refine sg ?_
 refine ⟨_,rfl,_,rfl,?_⟩
 refine wT [(4,.b 4 0)] [(4,.box [.o 31,vi p_t.Next,vi p_t.Cookie]),(31,.own 55 6 (mI v5))] Q1 J2 rfl ?_
 refine rt ?_
 cases h
 exact ⟨_,rfl,(Fz.a (.cons (Fz.o rfl) (.cons Fz.v (.cons Fz.v .nil))))⟩
theorem w_ref07N11 {p_t} {p_ino} {p_name} {p_of} {r} (h:ref07N19 p_t p_ino p_name p_of=some r):Pure Tryz.prog 63 [(.a [(.s (mI p_t.Nodes)),(vi p_t.Next),(vi p_t.Cookie)]),(vi p_ino),(vs p_name),(vi p_of)] (.a [(.s (mI r.Nodes)),(vi r.Next),(vi r.Cookie)]):=by
 refine po Tryz.tok 72 Tryz.func63 (by kernel_rfl) rfl rfl rfl ?_
 unfold ref07N19 at h
 refine wE [(0,.a [.s (mI p_t.Nodes),vi p_t.Next,vi p_t.Cookie]),(1,vi p_ino),(2,vs p_name),(3,vi p_of)] Q4 ?_
 refine sg ?_
 refine wT [(1,vi p_ino),(2,vs p_name),(3,vi p_of),(4,.b 4 0),(8,.b 8 0)] [(4,.box [.s (mI p_t.Nodes),vi p_t.Next,vi p_t.Cookie]),(8,.box [.v (.slice none 0 0),vi (0),vi (0)])] Q5 J2 rfl ?_
 refine sg ?_
 obtain ⟨x1,hx1,h⟩:=bindS h
 refine ⟨_,rfl,?_⟩
 refine CallOk.call (w_ref07_Get hx1) (LeL.refl _) ?_
 refine ⟨_,rfl,?_⟩
 refine wT [(2,vs p_name),(3,vi p_of),(4,.b 4 0),(8,.b 8 0),(9,.b 9 0)] [(4,.box [.s (mI p_t.Nodes),vi p_t.Next,vi p_t.Cookie]),(8,.box [.v (.slice none 0 0),vi (0),vi (0)]),(9,.box [vi x1.1.Ino,vi x1.1.Kind,vi x1.1.Links,.s (mD x1.1.Data),.s (mC x1.1.Ents),vi x1.1.Up])] Q5 J3 rfl ?_
 refine sg ?_
 refine ⟨_,rfl,_,rfl,?_⟩
 refine wT [(2,vs p_name),(4,.b 4 0),(8,.b 8 0),(9,.b 9 0),(11,.b 11 0)] [(4,.box [.s (mI p_t.Nodes),vi p_t.Next,vi p_t.Cookie]),(8,.box [.v (.slice none 0 0),vi (0),vi (0)]),(9,.box [vi x1.1.Ino,vi x1.1.Kind,vi x1.1.Links,.s (mD x1.1.Data),.s (mC x1.1.Ents),vi x1.1.Up]),(11,.box [vs p_name,vi p_of,vi p_t.Cookie])] Q5 J4 rfl ?_
 refine sg ?_
 refine wT [(2,vs p_name),(4,.b 4 0),(8,.b 8 0),(9,.b 9 0),(11,.b 11 0),(12,.v (.slice none 0 0))] [(4,.box [.s (mI p_t.Nodes),vi p_t.Next,vi p_t.Cookie]),(8,.box [.v (.slice none 0 0),vi (0),vi (0)]),(9,.box [vi x1.1.Ino,vi x1.1.Kind,vi x1.1.Links,.s (mD x1.1.Data),.s (mC x1.1.Ents),vi x1.1.Up]),(11,.box [vs p_name,vi p_of,vi p_t.Cookie])] Q6 J4 rfl ?_
 refine sg ?_
 refine wT [(2,vs p_name),(4,.b 4 0),(8,.b 8 0),(9,.b 9 0),(11,.b 11 0),(12,.v (.slice none 0 0)),(13,vb false)] [(4,.box [.s (mI p_t.Nodes),vi p_t.Next,vi p_t.Cookie]),(8,.box [.v (.slice none 0 0),vi (0),vi (0)]),(9,.box [vi x1.1.Ino,vi x1.1.Kind,vi x1.1.Links,.s (mD x1.1.Data),.s (mC x1.1.Ents),vi x1.1.Up]),(11,.box [vs p_name,vi p_of,vi p_t.Cookie])] Q7 J4 rfl ?_
 obtain ⟨v1,hv1,h⟩:=bindS h
 refine Ok.seqw ⟨Cat.tab [(4,.b 4 0),(8,.b 8 0),(9,.b 9 0),(11,.b 11 0),(12,.o 48),(13,vb v1.1)],[(4,.box [.s (mI p_t.Nodes),vi p_t.Next,vi p_t.Cookie]),(8,.box [.v (.slice none 0 0),vi (0),vi (0)]),(9,.box [vi x1.1.Ino,vi x1.1.Kind,vi x1.1.Links,.s (mD x1.1.Data),.s (mC x1.1.Ents),vi x1.1.Up]),(11,.box [vs p_name,vi p_of,vi p_t.Cookie]),(48,.own 122 3 (mC v1.2))]⟩ ?_ ?_
 ·refine sg ?_
  refine wT [(2,vs p_name),(4,.b 4 0),(8,.b 8 0),(9,.b 9 0),(11,.b 11 0),(12,.v (.slice none 0 0)),(13,vb false),(14,vi (0))] [(4,.box [.s (mI p_t.Nodes),vi p_t.Next,vi p_t.Cookie]),(8,.box [.v (.slice none 0 0),vi (0),vi (0)]),(9,.box [vi x1.1.Ino,vi x1.1.Kind,vi x1.1.Links,.s (mD x1.1.Data),.s (mC x1.1.Ents),vi x1.1.Up]),(11,.box [vs p_name,vi p_of,vi p_t.Cookie])] Q8 J4 rfl ?_
  refine bl ?_
  refine Ok.loop (fun (s1:Bool×Int×(List api_Ent))=>⟨Cat.tab [(2,vs p_name),(4,.b 4 0),(8,.b 8 0),(9,.b 9 0),(11,.b 11 0),(12,.o 48),(13,vb s1.1),(14,vi s1.2.1)],[(4,.box [.s (mI p_t.Nodes),vi p_t.Next,vi p_t.Cookie]),(8,.box [.v (.slice none 0 0),vi (0),vi (0)]),(9,.box [vi x1.1.Ino,vi x1.1.Kind,vi x1.1.Links,.s (mD x1.1.Data),.s (mC x1.1.Ents),vi x1.1.Up]),(11,.box [vs p_name,vi p_of,vi p_t.Cookie]),(48,.own 122 3 (mC s1.2.2))]⟩) (ref07N21 x1 p_name p_of p_t) (s0:=(false,0,[])) hv1 ((Wk.own0 (t:=12) (id:=48) (E:=122) (K:=3) rfl rfl).trans (wt Q8 ⟨⟨_,rfl,.refl _⟩,⟨_,rfl,.refl _⟩,⟨_,rfl,.refl _⟩,⟨_,rfl,.refl _⟩,⟨_,rfl,.refl _⟩,Q0⟩ rfl)) ?_
  intro s1 y1 hB1 hy1
  unfold ref07N21 at hB1
  refine sq ?_
  refine sg ?_
  refine ⟨_,rfl,_,List.length_map _,fun _=>?_⟩
  refine wT [(2,vs p_name),(4,.b 4 0),(8,.b 8 0),(9,.b 9 0),(11,.b 11 0),(12,.o 48),(13,vb s1.1),(14,vi s1.2.1),(30,vb (decide (s1.2.1 < (x1.1.Ents.length:Int))))] [(4,.box [.s (mI p_t.Nodes),vi p_t.Next,vi p_t.Cookie]),(8,.box [.v (.slice none 0 0),vi (0),vi (0)]),(9,.box [vi x1.1.Ino,vi x1.1.Kind,vi x1.1.Links,.s (mD x1.1.Data),.s (mC x1.1.Ents),vi x1.1.Up]),(11,.box [vs p_name,vi p_of,vi p_t.Cookie]),(48,.own 122 3 (mC s1.2.2))] ⟨lr,Q8⟩ ⟨hr,J4⟩ rfl ?_
  refine cn 30 (decide (s1.2.1 < (x1.1.Ents.length:Int))) rfl hB1 (fun hb hB1=>?_) fun hb hB1=>?_
  ·refine sk ?_
   refine sq ?_
   refine bl ?_
   obtain ⟨v2,hv2,hB1⟩:=bindS hB1
   refine Ok.seqw ⟨Cat.tab [(2,vs p_name),(4,.b 4 0),(8,.b 8 0),(9,.b 9 0),(11,.b 11 0),(12,.o 48),(13,vb v2.1),(14,vi s1.2.1)],[(4,.box [.s (mI p_t.Nodes),vi p_t.Next,vi p_t.Cookie]),(8,.box [.v (.slice none 0 0),vi (0),vi (0)]),(9,.box [vi x1.1.Ino,vi x1.1.Kind,vi x1.1.Links,.s (mD x1.1.Data),.s (mC x1.1.Ents),vi x1.1.Up]),(11,.box [vs p_name,vi p_of,vi p_t.Cookie]),(48,.own 122 3 (mC v2.2))]⟩ ?_ ?_
   ·obtain ⟨v3,hv3,hv2⟩:=bindS hv2
    refine Ok.seqw ⟨Cat.tab [(2,vs p_name),(4,.b 4 0),(8,.b 8 0),(9,.b 9 0),(11,.b 11 0),(12,.o 48),(13,vb s1.1),(14,vi s1.2.1),(44,vb v3)],[(4,.box [.s (mI p_t.Nodes),vi p_t.Next,vi p_t.Cookie]),(8,.box [.v (.slice none 0 0),vi (0),vi (0)]),(9,.box [vi x1.1.Ino,vi x1.1.Kind,vi x1.1.Links,.s (mD x1.1.Data),.s (mC x1.1.Ents),vi x1.1.Up]),(11,.box [vs p_name,vi p_of,vi p_t.Cookie]),(48,.own 122 3 (mC s1.2.2))]⟩ ?_ ?_
    ·refine rg ?_
     obtain ⟨c1,hg1,hv3⟩:=bindS hv3
     refine Br.ite hg1 (fun hb hg1=>?_) fun hb hg1=>?_
     ·obtain ⟨x2,hx2,hg1⟩:=bindS hg1
      refine ⟨_,rfl,_,idx_nat hx2,_,idx_row hx2,_,rfl,_,str_gtr _ _,?_⟩
      cases hg1
      cases hv3
      exact wt ⟨lr,Q8⟩ ⟨hr,J4⟩ rfl
     cases hg1
     cases hv3
     exact wt ⟨lr,Q8⟩ ⟨hr,J4⟩ rfl
    refine cn 44 (v3) rfl hv2 (fun hb hv2=>?_) fun hb hv2=>?_
    ·refine sg ?_
     obtain ⟨hc1,hv2⟩:=chk_some hv2
     refine ⟨_,rfl,Or.inl ⟨rowsLen_map (f:=c_api_Ent) (n:=3) (fun _=>rfl) ([(⟨p_name,p_of,p_t.Cookie⟩:api_Ent)]),app_b2 (f:=c_api_Ent) (l:=s1.2.2) (l':=[(⟨p_name,p_of,p_t.Cookie⟩:api_Ent)]) hc1,_,(List.map_append (f:=c_api_Ent) (l₁:=s1.2.2) (l₂:=[(⟨p_name,p_of,p_t.Cookie⟩:api_Ent)])).symm,?_⟩⟩
     refine wT [(2,vs p_name),(4,.b 4 0),(8,.b 8 0),(9,.b 9 0),(11,.b 11 0),(12,.o 48),(14,vi s1.2.1)] [(4,.box [.s (mI p_t.Nodes),vi p_t.Next,vi p_t.Cookie]),(8,.box [.v (.slice none 0 0),vi (0),vi (0)]),(9,.box [vi x1.1.Ino,vi x1.1.Kind,vi x1.1.Links,.s (mD x1.1.Data),.s (mC x1.1.Ents),vi x1.1.Up]),(11,.box [vs p_name,vi p_of,vi p_t.Cookie]),(48,.own 122 3 (mC (s1.2.2++[(⟨p_name,p_of,p_t.Cookie⟩:api_Ent)])))] Q7 ⟨hr,J4⟩ rfl ?_
     refine rg ?_
     cases hv2
     exact wt Q8 ⟨hr,J4⟩ rfl
    refine sk ?_
    cases hv2
    exact wt Q8 ⟨hr,J4⟩ rfl
   refine rg ?_
   obtain ⟨x3,hx3,hB1⟩:=bindS hB1
   obtain ⟨hc2,hB1⟩:=chk_some hB1
   refine ⟨_,rfl,_,idx_nat hx3,_,idx_row hx3,_,rfl,Or.inl ⟨rowsLen_map (f:=c_api_Ent) (n:=3) (fun _=>rfl) ([x3]),app_b2 (f:=c_api_Ent) (l:=v2.2) (l':=[x3]) hc2,_,(List.map_append (f:=c_api_Ent) (l₁:=v2.2) (l₂:=[x3])).symm,?_⟩⟩
   refine wT [(2,vs p_name),(4,.b 4 0),(8,.b 8 0),(9,.b 9 0),(11,.b 11 0),(12,.o 48),(13,vb v2.1),(14,vi s1.2.1)] [(4,.box [.s (mI p_t.Nodes),vi p_t.Next,vi p_t.Cookie]),(8,.box [.v (.slice none 0 0),vi (0),vi (0)]),(9,.box [vi x1.1.Ino,vi x1.1.Kind,vi x1.1.Links,.s (mD x1.1.Data),.s (mC x1.1.Ents),vi x1.1.Up]),(11,.box [vs p_name,vi p_of,vi p_t.Cookie]),(48,.own 122 3 (mC (v2.2++[x3])))] Q8 ⟨hr,J4⟩ rfl ?_
   refine rg ?_
   obtain ⟨hc3,hB1⟩:=chk_some hB1
   refine (Or.inl ⟨hc3,?_⟩)
   exact ⟨_,sj hB1,wt Q8 ⟨hr,J4⟩ rfl⟩
  refine xt ?_
  have hB1:=out_ret hB1 hy1
  cases hB1
  exact wt Q6 ⟨hr,J4⟩ rfl
 obtain ⟨v4,hv4,h⟩:=bindS h
 refine Ok.seqw ⟨Cat.tab [(4,.b 4 0),(8,.b 8 0),(9,.b 9 0),(12,.o 48)],[(4,.box [.s (mI p_t.Nodes),vi p_t.Next,vi p_t.Cookie]),(8,.box [.v (.slice none 0 0),vi (0),vi (0)]),(9,.box [vi x1.1.Ino,vi x1.1.Kind,vi x1.1.Links,.s (mD x1.1.Data),.s (mC x1.1.Ents),vi x1.1.Up]),(48,.own 122 3 (mC v4))]⟩ ?_ ?_
 ·refine sg ?_
  refine wT [(4,.b 4 0),(8,.b 8 0),(9,.b 9 0),(11,.b 11 0),(12,.o 48),(58,vb (!v1.1))] [(4,.box [.s (mI p_t.Nodes),vi p_t.Next,vi p_t.Cookie]),(8,.box [.v (.slice none 0 0),vi (0),vi (0)]),(9,.box [vi x1.1.Ino,vi x1.1.Kind,vi x1.1.Links,.s (mD x1.1.Data),.s (mC x1.1.Ents),vi x1.1.Up]),(11,.box [vs p_name,vi p_of,vi p_t.Cookie]),(48,.own 122 3 (mC v1.2))] Q6 ⟨hr,J4⟩ rfl ?_
  refine cn 58 (!v1.1) rfl hv4 (fun hb hv4=>?_) fun hb hv4=>?_
  ·refine rg ?_
   obtain ⟨hc4,hv4⟩:=chk_some hv4
   refine ⟨_,rfl,Or.inl ⟨rowsLen_map (f:=c_api_Ent) (n:=3) (fun _=>rfl) ([(⟨p_name,p_of,p_t.Cookie⟩:api_Ent)]),app_b2 (f:=c_api_Ent) (l:=v1.2) (l':=[(⟨p_name,p_of,p_t.Cookie⟩:api_Ent)]) hc4,_,(List.map_append (f:=c_api_Ent) (l₁:=v1.2) (l₂:=[(⟨p_name,p_of,p_t.Cookie⟩:api_Ent)])).symm,?_⟩⟩
   cases hv4
   exact wt Q4 J4 rfl
  refine sk ?_
  cases hv4
  exact wt Q4 J4 rfl
 refine sg ?_
 refine ⟨_,rfl,?_⟩
 refine wT [(4,.b 4 0),(8,.b 8 0),(9,.b 9 0)] [(4,.box [.s (mI p_t.Nodes),vi p_t.Next,vi p_t.Cookie]),(8,.box [.v (.slice none 0 0),vi (0),vi (0)]),(9,.box [vi x1.1.Ino,vi x1.1.Kind,vi x1.1.Links,.s (mD x1.1.Data),.o 48,vi x1.1.Up]),(48,.own 122 3 (mC v4))] Q3 J4 rfl ?_
 refine sg ?_
 obtain ⟨hc5,h⟩:=chk_some h
 refine ⟨_,rfl,(Or.inl ⟨hc5,_,rfl,?_⟩)⟩
 refine wT [(4,.b 4 0),(8,.b 8 0),(9,.b 9 0)] [(4,.box [.s (mI p_t.Nodes),vi p_t.Next,vi (p_t.Cookie+1)]),(8,.box [.v (.slice none 0 0),vi (0),vi (0)]),(9,.box [vi x1.1.Ino,vi x1.1.Kind,vi x1.1.Links,.s (mD x1.1.Data),.o 48,vi x1.1.Up]),(48,.own 122 3 (mC v4))] Q3 J4 rfl ?_
 refine sg ?_
 obtain ⟨x4,hx4,h⟩:=bindS h
 refine ⟨_,rfl,_,rfl,?_⟩
 refine CallOk.freeze (id:=48) rfl (CallOk.call (w_ref07N18 hx4) (LeL.refl _) ?_)
 refine ⟨_,rfl,?_⟩
 refine wT [(8,.b 8 0)] [(8,.box [.s (mI x4.Nodes),vi x4.Next,vi x4.Cookie])] Q1 J1 rfl ?_
 refine rt ?_
 cases h
 exact ⟨_,rfl,(Fz.imm rfl)⟩
theorem w_ref07_Add {p_t} {p_ino} {p_name} {p_kind} {r} (h:ref07_Add p_t p_ino p_name p_kind=some r):Pure Tryz.prog 29 [(.a [(.s (mI p_t.Nodes)),(vi p_t.Next),(vi p_t.Cookie)]),(vi p_ino),(vs p_name),(vi p_kind)] (.t [(.a [(.s (mI r.1.Nodes)),(vi r.1.Next),(vi r.1.Cookie)]),(vi r.2.1),(vi r.2.2)]):=by
 refine po Tryz.tok 60 Tryz.func29 (by kernel_rfl) rfl rfl rfl ?_
 unfold ref07_Add at h
 refine wE [(0,.a [.s (mI p_t.Nodes),vi p_t.Next,vi p_t.Cookie]),(1,vi p_ino),(2,vs p_name),(3,vi p_kind)] Q4 ?_
 refine sg ?_
 refine wT [(1,vi p_ino),(2,vs p_name),(3,vi p_kind),(4,.b 4 0),(8,.b 8 0)] [(4,.box [.s (mI p_t.Nodes),vi p_t.Next,vi p_t.Cookie]),(8,.box [.v (.slice none 0 0),vi (0),vi (0)])] Q5 J2 rfl ?_
 refine sq ?_
 obtain ⟨v1,hv1,h⟩:=bindS h
 refine Ok.seqw ⟨Cat.tab [(1,vi p_ino),(2,vs p_name),(3,vi p_kind),(4,.b 4 0),(8,.b 8 0),(18,vb v1)],[(4,.box [.s (mI p_t.Nodes),vi p_t.Next,vi p_t.Cookie]),(8,.box [.v (.slice none 0 0),vi (0),vi (0)])]⟩ ?_ ?_
 ·refine rg ?_
  obtain ⟨c1,hg1,hv1⟩:=bindS hv1
  refine Br.ite hg1 (fun hb hg1=>?_) fun hb hg1=>?_
  ·cases hg1
   cases hv1
   exact wt Q6 J2 rfl
  cases hg1
  cases hv1
  exact wt Q6 J2 rfl
 refine cn 18 (v1) rfl h (fun hb h=>?_) fun hb h=>?_
 ·refine sg ?_
  refine ⟨_,rfl,_,rfl,?_⟩
  refine wT [(8,.b 8 0),(9,vi (0)),(10,vi (1))] [(8,.box [.s (mI p_t.Nodes),vi p_t.Next,vi p_t.Cookie])] Q3 J1 rfl ?_
  refine rt ?_
  cases h
  exact ⟨_,rfl,(Fz.t (.cons (Fz.imm rfl) (.cons Fz.v (.cons Fz.v .nil))))⟩
 refine sk ?_
 refine sg ?_
 obtain ⟨x1,hx1,h⟩:=bindS h
 refine ⟨_,rfl,?_⟩
 refine CallOk.call (w_ref07N10 hx1) (LeL.refl _) ?_
 refine wT [(1,vi p_ino),(2,vs p_name),(3,vi p_kind),(4,.b 4 0),(8,.b 8 0),(11,vi x1)] [(4,.box [.s (mI p_t.Nodes),vi p_t.Next,vi p_t.Cookie]),(8,.box [.v (.slice none 0 0),vi (0),vi (0)])] Q6 J2 rfl ?_
 refine sq ?_
 refine sg ?_
 refine wT [(1,vi p_ino),(2,vs p_name),(3,vi p_kind),(4,.b 4 0),(8,.b 8 0),(11,vi x1),(25,vb (x1 != 0))] [(4,.box [.s (mI p_t.Nodes),vi p_t.Next,vi p_t.Cookie]),(8,.box [.v (.slice none 0 0),vi (0),vi (0)])] Q7 J2 rfl ?_
 refine cn 25 (x1 != 0) rfl h (fun hb h=>?_) fun hb h=>?_
 ·refine sg ?_
  refine ⟨_,rfl,_,rfl,?_⟩
  refine wT [(8,.b 8 0),(9,vi (0)),(10,vi x1)] [(8,.box [.s (mI p_t.Nodes),vi p_t.Next,vi p_t.Cookie])] Q3 J1 rfl ?_
  refine rt ?_
  cases h
  exact ⟨_,rfl,(Fz.t (.cons (Fz.imm rfl) (.cons Fz.v (.cons Fz.v .nil))))⟩
 refine sk ?_
 refine sq ?_
 obtain ⟨v2,hv2,h⟩:=bindS h
 refine Ok.seqw ⟨Cat.tab [(1,vi p_ino),(2,vs p_name),(3,vi p_kind),(4,.b 4 0),(8,.b 8 0),(36,vb v2)],[(4,.box [.s (mI p_t.Nodes),vi p_t.Next,vi p_t.Cookie]),(8,.box [.v (.slice none 0 0),vi (0),vi (0)])]⟩ ?_ ?_
 ·refine rg ?_
  refine ⟨_,rfl,_,List.length_map _,fun _=>?_⟩
  obtain ⟨c2,hg2,hv2⟩:=bindS hv2
  refine Br.itf hg2 (fun hb hg2=>?_) fun hb hg2=>?_
  ·cases hg2
   cases hv2
   exact wt Q6 J2 rfl
  refine ⟨_,rfl,?_⟩
  cases hg2
  cases hv2
  exact wt Q6 J2 rfl
 refine cn 36 (v2) rfl h (fun hb h=>?_) fun hb h=>?_
 ·refine sg ?_
  refine ⟨_,rfl,_,rfl,?_⟩
  refine wT [(8,.b 8 0),(9,vi (0)),(10,vi (76))] [(8,.box [.s (mI p_t.Nodes),vi p_t.Next,vi p_t.Cookie])] Q3 J1 rfl ?_
  refine rt ?_
  cases h
  exact ⟨_,rfl,(Fz.t (.cons (Fz.imm rfl) (.cons Fz.v (.cons Fz.v .nil))))⟩
 refine sk ?_
 refine sg ?_
 refine ⟨_,rfl,_,rfl,?_⟩
 refine wT [(1,vi p_ino),(2,vs p_name),(3,vi p_kind),(4,.b 4 0),(8,.b 8 0),(12,.b 12 0)] [(4,.box [.s (mI p_t.Nodes),vi p_t.Next,vi p_t.Cookie]),(8,.box [.v (.slice none 0 0),vi (0),vi (0)]),(12,.box [vi p_t.Next,vi p_kind,vi (1),.v (.slice none 0 0),.v (.slice none 0 0),vi (0)])] Q6 J3 rfl ?_
 obtain ⟨v3,hv3,h⟩:=bindS h
 refine Ok.seqw ⟨Cat.tab [(1,vi p_ino),(2,vs p_name),(4,.b 4 0),(8,.b 8 0),(12,.b 12 0)],[(4,.box [.s (mI p_t.Nodes),vi p_t.Next,vi p_t.Cookie]),(8,.box [.v (.slice none 0 0),vi (0),vi (0)]),(12,.box [vi p_t.Next,vi p_kind,vi (1),.v (.slice none 0 0),.v (.slice none 0 0),vi v3])]⟩ ?_ ?_
 ·refine sg ?_
  refine wT [(1,vi p_ino),(2,vs p_name),(4,.b 4 0),(8,.b 8 0),(12,.b 12 0),(43,vb (p_kind == 2))] [(4,.box [.s (mI p_t.Nodes),vi p_t.Next,vi p_t.Cookie]),(8,.box [.v (.slice none 0 0),vi (0),vi (0)]),(12,.box [vi p_t.Next,vi p_kind,vi (1),.v (.slice none 0 0),.v (.slice none 0 0),vi (0)])] Q6 J3 rfl ?_
  refine cn 43 (p_kind == 2) rfl hv3 (fun hb hv3=>?_) fun hb hv3=>?_
  ·refine rg ?_
   refine ⟨_,rfl,?_⟩
   cases hv3
   exact wt Q5 J3 rfl
  refine sk ?_
  cases hv3
  exact wt Q5 J3 rfl
 refine sg ?_
 obtain ⟨hc1,h⟩:=chk_some h
 refine ⟨_,rfl,(Or.inl ⟨hc1,_,rfl,?_⟩)⟩
 refine wT [(1,vi p_ino),(2,vs p_name),(4,.b 4 0),(8,.b 8 0),(12,.b 12 0)] [(4,.box [.s (mI p_t.Nodes),vi (p_t.Next+1),vi p_t.Cookie]),(8,.box [.v (.slice none 0 0),vi (0),vi (0)]),(12,.box [vi p_t.Next,vi p_kind,vi (1),.v (.slice none 0 0),.v (.slice none 0 0),vi v3])] Q5 J3 rfl ?_
 refine sq ?_
 refine Ok.draw2 (m:=10) (late:=[8,9]) (MD:=⟨[]⟩) (CH:=⟨[]⟩) Tryz.tok Tryz.mixed (by kernel_rfl) ?_
 obtain ⟨x2,hx2,h⟩:=bindS h
 obtain ⟨x3,hx3,h⟩:=bindS h
 refine ⟨_,⟨_,rfl,rfl⟩,_,⟨_,rfl,rfl⟩,_,⟨_,.of_pure (w_ref07N18 hx2) (.cons (lr) (.cons (Le.a (.cons (lr) (.cons (lr) (.cons (lr) (.cons (Le.nil) (.cons (Le.nil) (.cons (lr) (.nil)))))))) (.nil))),rfl⟩,_,rfl,_,rfl,_,rfl,_,⟨_,rfl,rfl⟩,_,⟨_,.of_pure (w_ref07N11 hx3) (LeL.refl _),rfl⟩,_,rfl,_,⟨_,rfl,rfl⟩,Q0,?_⟩
 refine ⟨_,rfl,⟨⟨_,rfl,rfl⟩,⟨_,rfl,_,rfl,rfl⟩,Q0⟩,?_⟩
 refine wT [(8,.b 8 0),(9,vi p_t.Next),(10,vi (0))] [(8,.box [.s (mI x3.Nodes),vi x3.Next,vi x3.Cookie])] Q3 J1 rfl ?_
 refine rt ?_
 cases h
 exact ⟨_,rfl,(Fz.t (.cons (Fz.imm rfl) (.cons Fz.v (.cons Fz.v .nil))))⟩
theorem w_bytesN1 {p_a} {p_b} {r} (h:bytes_Equal p_a p_b=some r):Pure Tryz.prog 95 [(.s (mD p_a)),(.s (mD p_b))] (vb r):=by
 refine po Tryz.tok 10 Tryz.func95 (by kernel_rfl) rfl rfl rfl ?_
 unfold bytes_Equal at h
 refine wE [(0,.s (mD p_a)),(1,.s (mD p_b))] Q2 ?_
 refine sg ?_
 refine wE [(0,.s (mD p_a)),(1,.s (mD p_b))] Q2 ?_
 refine sg ?_
 refine ⟨_,rfl,_,rfl,_,str_eql _ _,?_⟩
 refine wE [(4,vb (p_a == p_b))] Q1 ?_
 refine rt ?_
 cases h
 exact Fz.v
theorem w_slicesN7 {p_s1} {p_s2} {r} (h:slicesN30 p_s1 p_s2=some r):Pure Tryz.prog 96 [(.s (mC p_s1)),(.s (mC p_s2))] (vb r):=by
 refine po Tryz.tok 26 Tryz.func96 (by kernel_rfl) rfl rfl rfl ?_
 unfold slicesN30 at h
 refine wE [(0,.s (mC p_s1)),(1,.s (mC p_s2))] Q2 ?_
 refine sg ?_
 refine wE [(0,.s (mC p_s1)),(1,.s (mC p_s2))] Q2 ?_
 refine sq ?_
 refine sg ?_
 refine ⟨_,List.length_map _,fun _=>⟨_,List.length_map _,fun _=>?_⟩⟩
 refine wE [(0,.s (mC p_s1)),(1,.s (mC p_s2)),(10,vb ((p_s1.length:Int) != (p_s2.length:Int)))] Q3 ?_
 refine cn 10 ((p_s1.length:Int) != (p_s2.length:Int)) rfl h (fun hb h=>?_) fun hb h=>?_
 ·refine sg ?_
  refine wE [(4,vb false)] Q1 ?_
  refine rt ?_
  cases h
  exact Fz.v
 refine sk ?_
 refine Ok.seqj (fun v1=>⟨Cat.tab [],[]⟩) (fun v1=>slicesN34 v1=some r) ?_ ?_
 ·refine sg ?_
  refine ⟨_,List.length_map _,fun _=>?_⟩
  refine wE [(0,.s (mC p_s1)),(1,.s (mC p_s2)),(12,vi (p_s1.length:Int)),(13,vi (0))] Q4 ?_
  refine bl ?_
  refine Ok.loop (fun (s1:Int)=>⟨Cat.tab [(0,.s (mC p_s1)),(1,.s (mC p_s2)),(12,vi (p_s1.length:Int)),(13,vi s1)],[]⟩) (slicesN32 p_s1 p_s2) (s0:=0) h (wt Q4 Q0 rfl) ?_
  intro s1 y1 hB1 hy1
  unfold slicesN32 at hB1
  refine sg ?_
  refine wE [(0,.s (mC p_s1)),(1,.s (mC p_s2)),(12,vi (p_s1.length:Int)),(13,vi s1),(14,vb (decide (s1 < (p_s1.length:Int))))] Q5 ?_
  refine sq ?_
  refine cn 14 (decide (s1 < (p_s1.length:Int))) rfl hB1 (fun hb hB1=>?_) fun hb hB1=>?_
  ·refine sk ?_
   refine sq ?_
   refine bl ?_
   refine sg ?_
   refine wE [(0,.s (mC p_s1)),(1,.s (mC p_s2)),(5,vi s1),(12,vi (p_s1.length:Int)),(13,vi s1)] Q5 ?_
   refine sq ?_
   refine Ok.draw (m:=9) (MD:=⟨[]⟩) (CH:=⟨[]⟩) Tryz.tok Tryz.mixed (by kernel_rfl) ?_
   obtain ⟨x1,hx1,hB1⟩:=bindS hB1
   obtain ⟨x2,hx2,hB1⟩:=bindS hB1
   refine ⟨_,rfl,_,rfl,_,⟨_,idx_nat hx1,_,idx_row hx1,rfl⟩,_,⟨_,rfl,rfl⟩,_,rfl,_,rfl,_,⟨_,idx_nat hx2,_,idx_row hx2,rfl⟩,_,⟨_,rfl,rfl⟩,_,⟨[.one (.str),.one (.int .i64),.one (.int .i64)],by kernel_rfl,rfl⟩,Q0,?_⟩
   refine wE [(0,.s (mC p_s1)),(1,.s (mC p_s2)),(12,vi (p_s1.length:Int)),(13,vi s1),(24,vb (!(x1.Name == x2.Name&&(x1.Ino == x2.Ino&&(x1.Cookie == x2.Cookie&&true)))))] Q5 ?_
   refine cn 24 (!(x1.Name == x2.Name&&(x1.Ino == x2.Ino&&(x1.Cookie == x2.Cookie&&true)))) rfl hB1 (fun hb hB1=>?_) fun hb hB1=>?_
   ·refine sg ?_
    refine wE [(4,vb false)] Q1 ?_
    refine rt ?_
    have hB1:=out_ret hB1 hy1
    cases hB1
    exact Fz.v
   refine sk ?_
   refine rg ?_
   obtain ⟨hc1,hB1⟩:=chk_some hB1
   refine (Or.inl ⟨hc1,?_⟩)
   exact ⟨_,sj hB1,wt Q4 Q0 rfl⟩
  refine xt ?_
  have hB1:=out_ret hB1 hy1
  exact ⟨_,hB1,wt Q0 Q0 rfl⟩
 intro v1 h
 unfold slicesN34 at h
 refine sg ?_
 refine wE [(4,vb true)] Q1 ?_
 refine rt ?_
 cases h
 exact Fz.v
theorem w_treeN2 {p_x} {p_y} {r} (h:tree_Same_1 p_x p_y=some r):Pure Tryz.prog 94 [(.a [(vi p_x.Ino),(vi p_x.Kind),(vi p_x.Links),(.s (mD p_x.Data)),(.s (mC p_x.Ents)),(vi p_x.Up)]),(.a [(vi p_y.Ino),(vi p_y.Kind),(vi p_y.Links),(.s (mD p_y.Data)),(.s (mC p_y.Ents)),(vi p_y.Up)])] (vb r):=by
 refine po Tryz.tok 45 Tryz.func94 (by kernel_rfl) rfl rfl rfl ?_
 unfold tree_Same_1 at h
 refine wE [(0,.a [vi p_x.Ino,vi p_x.Kind,vi p_x.Links,.s (mD p_x.Data),.s (mC p_x.Ents),vi p_x.Up]),(1,.a [vi p_y.Ino,vi p_y.Kind,vi p_y.Links,.s (mD p_y.Data),.s (mC p_y.Ents),vi p_y.Up])] Q2 ?_
 refine sg ?_
 refine wT [(2,.b 2 0),(3,.b 3 0)] [(2,.box [vi p_x.Ino,vi p_x.Kind,vi p_x.Links,.s (mD p_x.Data),.s (mC p_x.Ents),vi p_x.Up]),(3,.box [vi p_y.Ino,vi p_y.Kind,vi p_y.Links,.s (mD p_y.Data),.s (mC p_y.Ents),vi p_y.Up])] Q2 J2 rfl ?_
 obtain ⟨v1,hv1,h⟩:=bindS h
 refine Ok.seqw ⟨Cat.tab [(4,vb v1)],[]⟩ ?_ ?_
 ·refine rg ?_
  refine ⟨_,rfl,_,rfl,?_⟩
  obtain ⟨c1,hg1,hv1⟩:=bindS hv1
  refine Br.ite hg1 (fun hb hg1=>?_) fun hb hg1=>?_
  ·refine ⟨_,rfl,_,rfl,?_⟩
   cases hg1
   obtain ⟨c2,hg2,hv1⟩:=bindS hv1
   refine Br.ite hg2 (fun hb hg2=>?_) fun hb hg2=>?_
   ·refine ⟨_,rfl,_,rfl,?_⟩
    cases hg2
    obtain ⟨c3,hg3,hv1⟩:=bindS hv1
    refine Br.ite hg3 (fun hb hg3=>?_) fun hb hg3=>?_
    ·refine ⟨_,rfl,_,rfl,?_⟩
     cases hg3
     obtain ⟨c4,hg4,hv1⟩:=bindS hv1
     refine Br.ite hg4 (fun hb hg4=>?_) fun hb hg4=>?_
     ·obtain ⟨x1,hx1,hg4⟩:=bindS hg4
      refine ⟨_,rfl,_,rfl,?_⟩
      refine CallOk.call (w_bytesN1 hx1) (LeL.refl _) ?_
      cases hg4
      obtain ⟨c5,hg5,hv1⟩:=bindS hv1
      refine Br.ite hg5 (fun hb hg5=>?_) fun hb hg5=>?_
      ·obtain ⟨x2,hx2,hg5⟩:=bindS hg5
       refine ⟨_,rfl,_,rfl,?_⟩
       refine CallOk.call (w_slicesN7 hx2) (LeL.refl _) ?_
       cases hg5
       cases hv1
       exact wt Q1 Q0 rfl
      cases hg5
      cases hv1
      exact wt Q1 Q0 rfl
     cases hg4
     obtain ⟨c5,hg6,hv1⟩:=bindS hv1
     replace hg6:=iteF hg6
     cases hg6
     cases hv1
     exact wt Q1 Q0 rfl
    cases hg3
    obtain ⟨c4,hg7,hv1⟩:=bindS hv1
    replace hg7:=iteF hg7
    cases hg7
    obtain ⟨c5,hg8,hv1⟩:=bindS hv1
    replace hg8:=iteF hg8
    cases hg8
    cases hv1
    exact wt Q1 Q0 rfl
   cases hg2
   obtain ⟨c3,hg9,hv1⟩:=bindS hv1
   replace hg9:=iteF hg9
   cases hg9
   obtain ⟨c4,hg10,hv1⟩:=bindS hv1
   replace hg10:=iteF hg10
   cases hg10
   obtain ⟨c5,hg11,hv1⟩:=bindS hv1
   replace hg11:=iteF hg11
   cases hg11
   cases hv1
   exact wt Q1 Q0 rfl
  cases hg1
  obtain ⟨c2,hg12,hv1⟩:=bindS hv1
  replace hg12:=iteF hg12
  cases hg12
  obtain ⟨c3,hg13,hv1⟩:=bindS hv1
  replace hg13:=iteF hg13
  cases hg13
  obtain ⟨c4,hg14,hv1⟩:=bindS hv1
  replace hg14:=iteF hg14
  cases hg14
  obtain ⟨c5,hg15,hv1⟩:=bindS hv1
  replace hg15:=iteF hg15
  cases hg15
  cases hv1
  exact wt Q1 Q0 rfl
 refine rt ?_
 cases h
 exact Fz.v
theorem w_slicesN6 {p_s1} {p_s2} {r} (h:slicesN23 p_s1 p_s2=some r):Pure Tryz.prog 97 [(.s (mI p_s1)),(.s (mI p_s2)),(.c (.func 94) [] [])] (vb r):=by
 refine po Tryz.tok 32 Tryz.func97 (by kernel_rfl) rfl rfl rfl ?_
 unfold slicesN23 at h
 refine wE [(0,.s (mI p_s1)),(1,.s (mI p_s2)),(2,.c (.func 94) [] [])] Q3 ?_
 refine sg ?_
 refine wE [(0,.s (mI p_s1)),(1,.s (mI p_s2)),(2,.c (.func 94) [] [])] Q3 ?_
 refine sq ?_
 refine sg ?_
 refine ⟨_,List.length_map _,fun _=>⟨_,List.length_map _,fun _=>?_⟩⟩
 refine wE [(0,.s (mI p_s1)),(1,.s (mI p_s2)),(2,.c (.func 94) [] []),(14,vb ((p_s1.length:Int) != (p_s2.length:Int)))] Q4 ?_
 refine cn 14 ((p_s1.length:Int) != (p_s2.length:Int)) rfl h (fun hb h=>?_) fun hb h=>?_
 ·refine sg ?_
  refine wE [(6,vb false)] Q1 ?_
  refine rt ?_
  cases h
  exact Fz.v
 refine sk ?_
 refine Ok.seqj (fun v1=>⟨Cat.tab [],[]⟩) (fun v1=>slicesN27 v1=some r) ?_ ?_
 ·refine sg ?_
  refine ⟨_,List.length_map _,fun _=>?_⟩
  refine wE [(1,.s (mI p_s2)),(2,.c (.func 94) [] []),(15,.s (mI p_s1)),(16,vi (p_s1.length:Int)),(17,vi (0))] Q5 ?_
  refine bl ?_
  refine Ok.loop (fun (s1:Int)=>⟨Cat.tab [(1,.s (mI p_s2)),(2,.c (.func 94) [] []),(15,.s (mI p_s1)),(16,vi (p_s1.length:Int)),(17,vi s1)],[]⟩) (slicesN25 p_s1 p_s2) (s0:=0) h (wt Q5 Q0 rfl) ?_
  intro s1 y1 hB1 hy1
  unfold slicesN25 at hB1
  refine sg ?_
  refine wE [(1,.s (mI p_s2)),(2,.c (.func 94) [] []),(15,.s (mI p_s1)),(16,vi (p_s1.length:Int)),(17,vi s1),(18,vb (decide (s1 < (p_s1.length:Int))))] Q6 ?_
  refine sq ?_
  refine cn 18 (decide (s1 < (p_s1.length:Int))) rfl hB1 (fun hb hB1=>?_) fun hb hB1=>?_
  ·refine sk ?_
   refine sq ?_
   refine bl ?_
   refine sg ?_
   obtain ⟨x1,hx1,hB1⟩:=bindS hB1
   refine ⟨_,idx_nat hx1,_,idx_row hx1,_,rfl,_,rfl,?_⟩
   refine wT [(1,.s (mI p_s2)),(2,.c (.func 94) [] []),(7,vi s1),(8,.b 8 0),(15,.s (mI p_s1)),(16,vi (p_s1.length:Int)),(17,vi s1)] [(8,.box [vi x1.Ino,vi x1.Kind,vi x1.Links,.s (mD x1.Data),.s (mC x1.Ents),vi x1.Up])] Q7 J1 rfl ?_
   refine sg ?_
   obtain ⟨x2,hx2,hB1⟩:=bindS hB1
   refine ⟨_,idx_nat hx2,_,idx_row hx2,_,rfl,_,rfl,?_⟩
   refine wT [(1,.s (mI p_s2)),(2,.c (.func 94) [] []),(8,.b 8 0),(9,.b 9 0),(15,.s (mI p_s1)),(16,vi (p_s1.length:Int)),(17,vi s1)] [(8,.box [vi x1.Ino,vi x1.Kind,vi x1.Links,.s (mD x1.Data),.s (mC x1.Ents),vi x1.Up]),(9,.box [vi x2.Ino,vi x2.Kind,vi x2.Links,.s (mD x2.Data),.s (mC x2.Ents),vi x2.Up])] Q7 J2 rfl ?_
   refine sg ?_
   obtain ⟨x3,hx3,hB1⟩:=bindS hB1
   refine ⟨_,rfl,_,rfl,?_⟩
   refine CallOk.call (w_treeN2 hx3) (LeL.refl _) ?_
   refine wE [(1,.s (mI p_s2)),(2,.c (.func 94) [] []),(15,.s (mI p_s1)),(16,vi (p_s1.length:Int)),(17,vi s1),(30,vb (!x3))] Q6 ?_
   refine cn 30 (!x3) rfl hB1 (fun hb hB1=>?_) fun hb hB1=>?_
   ·refine sg ?_
    refine wE [(6,vb false)] Q1 ?_
    refine rt ?_
    have hB1:=out_ret hB1 hy1
    cases hB1
    exact Fz.v
   refine sk ?_
   refine rg ?_
   obtain ⟨hc1,hB1⟩:=chk_some hB1
   refine (Or.inl ⟨hc1,?_⟩)
   exact ⟨_,sj hB1,wt Q5 Q0 rfl⟩
  refine xt ?_
  have hB1:=out_ret hB1 hy1
  exact ⟨_,hB1,wt Q0 Q0 rfl⟩
 intro v1 h
 unfold slicesN27 at h
 refine sg ?_
 refine wE [(6,vb true)] Q1 ?_
 refine rt ?_
 cases h
 exact Fz.v
theorem w_tree_Same {p_a} {p_b} {r} (h:tree_Same p_a p_b=some r):Pure Tryz.prog 58 [(.a [(.s (mI p_a.Nodes)),(vi p_a.Next),(vi p_a.Cookie)]),(.a [(.s (mI p_b.Nodes)),(vi p_b.Next),(vi p_b.Cookie)])] (vb r):=by
 refine po Tryz.tok 26 Tryz.func58 (by kernel_rfl) rfl rfl rfl ?_
 unfold tree_Same at h
 refine wE [(0,.a [.s (mI p_a.Nodes),vi p_a.Next,vi p_a.Cookie]),(1,.a [.s (mI p_b.Nodes),vi p_b.Next,vi p_b.Cookie])] Q2 ?_
 refine sg ?_
 refine wT [(2,.b 2 0),(3,.b 3 0)] [(2,.box [.s (mI p_a.Nodes),vi p_a.Next,vi p_a.Cookie]),(3,.box [.s (mI p_b.Nodes),vi p_b.Next,vi p_b.Cookie])] Q2 J2 rfl ?_
 refine sg ?_
 refine wT [(2,.b 2 0),(3,.b 3 0),(5,.c (.func 94) [] [])] [(2,.box [.s (mI p_a.Nodes),vi p_a.Next,vi p_a.Cookie]),(3,.box [.s (mI p_b.Nodes),vi p_b.Next,vi p_b.Cookie])] Q3 J2 rfl ?_
 obtain ⟨v1,hv1,h⟩:=bindS h
 refine Ok.seqw ⟨Cat.tab [(4,vb v1)],[]⟩ ?_ ?_
 ·refine rg ?_
  refine ⟨_,rfl,_,rfl,?_⟩
  obtain ⟨c1,hg1,hv1⟩:=bindS hv1
  refine Br.ite hg1 (fun hb hg1=>?_) fun hb hg1=>?_
  ·refine ⟨_,rfl,_,rfl,?_⟩
   cases hg1
   obtain ⟨c2,hg2,hv1⟩:=bindS hv1
   refine Br.ite hg2 (fun hb hg2=>?_) fun hb hg2=>?_
   ·obtain ⟨x1,hx1,hg2⟩:=bindS hg2
    refine ⟨_,rfl,_,rfl,?_⟩
    refine CallOk.call (w_slicesN6 hx1) (LeL.refl _) ?_
    cases hg2
    cases hv1
    exact wt Q1 Q0 rfl
   cases hg2
   cases hv1
   exact wt Q1 Q0 rfl
  cases hg1
  obtain ⟨c2,hg3,hv1⟩:=bindS hv1
  replace hg3:=iteF hg3
  cases hg3
  cases hv1
  exact wt Q1 Q0 rfl
 refine rt ?_
 cases h
 exact Fz.v
theorem wo_slicesN1 {p_s} {r} (h:slicesN13 p_s=some r):POwn Tryz.prog 59 [(.s (mA p_s))] 75 8 (mA r):=by
 refine pw Tryz.tok 8 Tryz.func59 (by kernel_rfl) rfl rfl rfl ?_
 unfold slicesN13 at h
 refine wE [(0,.s (mA p_s))] Q1 ?_
 refine sg ?_
 refine wE [(0,.s (mA p_s))] Q1 ?_
 refine sq ?_
 refine sg ?_
 intro b1 hb1
 have h:=anyOf_some h b1 (fun e=>List.map_eq_nil_iff.1 (hb1 e))
 refine wE [(0,.s (mA p_s)),(4,vb b1)] Q2 ?_
 refine cn 4 (b1) rfl h (fun hb h=>?_) fun hb h=>?_
 ·refine sg ?_
  refine wE [(2,.v (.slice none 0 0))] Q1 ?_
  refine rt ?_
  cases h
  exact (.inl ⟨rfl,rfl⟩)
 refine sk ?_
 refine sg ?_
 obtain ⟨hc1,h⟩:=chk_some h
 refine Or.inr ⟨rowsLen_map (f:=c_api_Past) (n:=8) (fun _=>rfl) p_s,app_b2 (f:=c_api_Past) (l:=([]:List api_Past)) (l':=p_s) hc1,_,(List.map_append (f:=c_api_Past) (l₁:=([]:List api_Past)) (l₂:=p_s)).symm,?_⟩
 refine wT [(2,.o 5)] [(5,.own 75 8 (mA (([]:List api_Past)++p_s)))] Q1 J1 rfl ?_
 refine rt ?_
 cases h
 exact (.inr ⟨_,rfl,rfl⟩)
theorem w_shotN5 {p_n} {p_ino} {r} (h:shot_find_1 p_n p_ino=some r):Pure Tryz.prog 79 [(.a [(vi p_n.Ino),(vi p_n.Kind),(vi p_n.Links),(.s (mD p_n.Data)),(.s (mC p_n.Ents)),(vi p_n.Up)]),(vi p_ino)] (vi r):=by
 refine po Tryz.tok 9 Tryz.func79 (by kernel_rfl) rfl rfl rfl ?_
 unfold shot_find_1 at h
 refine wE [(0,.a [vi p_n.Ino,vi p_n.Kind,vi p_n.Links,.s (mD p_n.Data),.s (mC p_n.Ents),vi p_n.Up]),(1,vi p_ino)] Q2 ?_
 refine sg ?_
 refine wT [(1,vi p_ino),(2,.b 2 0)] [(2,.box [vi p_n.Ino,vi p_n.Kind,vi p_n.Links,.s (mD p_n.Data),.s (mC p_n.Ents),vi p_n.Up])] Q2 J1 rfl ?_
 refine sg ?_
 obtain ⟨x1,hx1,h⟩:=bindS h
 refine ⟨_,rfl,?_⟩
 refine CallOk.call (w_cmpN1 hx1) (LeL.refl _) ?_
 refine wE [(4,vi x1)] Q1 ?_
 refine rt ?_
 cases h
 exact Fz.v
theorem w_slicesN1 {p_x} {p_target} {r} (h:slicesN1 p_x p_target=some r):Pure Tryz.prog 78 [(.s (mI p_x)),(vi p_target),(.c (.func 79) [] [])] (.t [(vi r.1),(vb r.2)]):=by
 refine po Tryz.tok 49 Tryz.func78 (by kernel_rfl) rfl rfl rfl ?_
 unfold slicesN1 at h
 refine wE [(0,.s (mI p_x)),(1,vi p_target),(2,.c (.func 79) [] [])] Q3 ?_
 refine sg ?_
 refine wE [(0,.s (mI p_x)),(1,vi p_target),(2,.c (.func 79) [] [])] Q3 ?_
 refine sg ?_
 refine ⟨_,List.length_map _,fun _=>?_⟩
 refine wE [(0,.s (mI p_x)),(1,vi p_target),(2,.c (.func 79) [] []),(8,vi (p_x.length:Int))] Q4 ?_
 refine sg ?_
 refine wE [(0,.s (mI p_x)),(1,vi p_target),(2,.c (.func 79) [] []),(8,vi (p_x.length:Int)),(9,vi (0)),(10,vi (p_x.length:Int))] Q6 ?_
 obtain ⟨v1,hv1,h⟩:=bindS h
 refine Ok.seqw ⟨Cat.tab [(0,.s (mI p_x)),(1,vi p_target),(2,.c (.func 79) [] []),(8,vi (p_x.length:Int)),(9,vi v1)],[]⟩ ?_ ?_
 ·refine bl ?_
  refine Ok.loop (fun (s1:Int×Int)=>⟨Cat.tab [(0,.s (mI p_x)),(1,vi p_target),(2,.c (.func 79) [] []),(8,vi (p_x.length:Int)),(9,vi s1.1),(10,vi s1.2)],[]⟩) (slicesN3 p_x p_target) (s0:=(0,(p_x.length:Int))) hv1 (wt Q6 Q0 rfl) ?_
  intro s1 y1 hB1 hy1
  unfold slicesN3 at hB1
  refine sq ?_
  refine sg ?_
  refine wE [(0,.s (mI p_x)),(1,vi p_target),(2,.c (.func 79) [] []),(8,vi (p_x.length:Int)),(9,vi s1.1),(10,vi s1.2),(17,vb (decide (s1.1 < s1.2)))] Q7 ?_
  refine cn 17 (decide (s1.1 < s1.2)) rfl hB1 (fun hb hB1=>?_) fun hb hB1=>?_
  ·refine sk ?_
   refine bl ?_
   refine sg ?_
   obtain ⟨hc1,hB1⟩:=chk_some hB1
   refine (Or.inl ⟨hc1,_,rfl,(by decide),_,rfl,_,rfl,?_⟩)
   refine wE [(0,.s (mI p_x)),(1,vi p_target),(2,.c (.func 79) [] []),(8,vi (p_x.length:Int)),(9,vi s1.1),(10,vi s1.2),(11,vi (IntKind.i64.wrap (shrK .u64 (IntKind.u64.wrap (s1.1+s1.2)) (1))))] Q7 ?_
   refine sg ?_
   obtain ⟨x1,hx1,hB1⟩:=bindS hB1
   obtain ⟨x2,hx2,hB1⟩:=bindS hB1
   refine ⟨_,idx_nat hx1,_,idx_row hx1,_,rfl,?_⟩
   refine CallOk.call (w_shotN5 hx2) (LeL.refl _) ?_
   refine wE [(0,.s (mI p_x)),(1,vi p_target),(2,.c (.func 79) [] []),(8,vi (p_x.length:Int)),(9,vi s1.1),(10,vi s1.2),(11,vi (IntKind.i64.wrap (shrK .u64 (IntKind.u64.wrap (s1.1+s1.2)) (1)))),(31,vb (decide (x2 < 0)))] Q8 ?_
   refine cn 31 (decide (x2 < 0)) rfl hB1 (fun hb hB1=>?_) fun hb hB1=>?_
   ·refine rg ?_
    obtain ⟨hc2,hB1⟩:=chk_some hB1
    refine (Or.inl ⟨hc2,?_⟩)
    exact ⟨_,sj hB1,wt Q6 Q0 rfl⟩
   refine rg ?_
   exact ⟨_,sj hB1,wt Q6 Q0 rfl⟩
  refine xt ?_
  have hB1:=out_ret hB1 hy1
  cases hB1
  exact wt Q5 Q0 rfl
 obtain ⟨v2,hv2,h⟩:=bindS h
 refine Ok.seqw ⟨Cat.tab [(6,vi v1),(7,vb v2)],[]⟩ ?_ ?_
 ·refine rg ?_
  obtain ⟨c1,hg1,hv2⟩:=bindS hv2
  refine Br.ite hg1 (fun hb hg1=>?_) fun hb hg1=>?_
  ·obtain ⟨x3,hx3,hg1⟩:=bindS hg1
   obtain ⟨x4,hx4,hg1⟩:=bindS hg1
   refine ⟨_,idx_nat hx3,_,idx_row hx3,_,rfl,?_⟩
   refine CallOk.call (w_shotN5 hx4) (LeL.refl _) ?_
   cases hg1
   cases hv2
   exact wt Q2 Q0 rfl
  cases hg1
  cases hv2
  exact wt Q2 Q0 rfl
 refine rt ?_
 cases h
 exact (Fz.t (.cons Fz.v (.cons Fz.v .nil)))
theorem w_shot_find {p_l} {p_ino} {r} (h:shot_find p_l p_ino=some r):Pure Tryz.prog 39 [(.s (mI p_l)),(vi p_ino)] (vi r):=by
 refine po Tryz.tok 16 Tryz.func39 (by kernel_rfl) rfl rfl rfl ?_
 unfold shot_find at h
 refine wE [(0,.s (mI p_l)),(1,vi p_ino)] Q2 ?_
 refine sg ?_
 refine wE [(0,.s (mI p_l)),(1,vi p_ino)] Q2 ?_
 refine sg ?_
 obtain ⟨x1,hx1,h⟩:=bindS h
 refine CallOk.call (w_slicesN1 hx1) (LeL.refl _) ?_
 refine wE [(5,vi x1.1),(6,vb x1.2)] Q2 ?_
 refine sq ?_
 refine sg ?_
 refine wE [(5,vi x1.1),(14,vb (!x1.2))] Q2 ?_
 refine cn 14 (!x1.2) rfl h (fun hb h=>?_) fun hb h=>?_
 ·refine sg ?_
  refine wE [(4,vi (-1))] Q1 ?_
  refine rt ?_
  cases h
  exact Fz.v
 refine sk ?_
 refine sg ?_
 refine wE [(4,vi x1.1)] Q1 ?_
 refine rt ?_
 cases h
 exact Fz.v
end Go.Proofs
