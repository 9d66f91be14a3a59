/- The walks of this seat beside the plain programs, part 0. No condition. -/
import Derived.Test.YtcbpphgndncebabGreatXMendWholeEn
namespace Go.Proofs
set_option linter.all false
open Go Go.Cat
variable [M : Mono]
set_option maxRecDepth 100000
theorem sg [R : Rnds] {n : Nat} {st : ASt} {Q : Exit → ASt → Prop} {id : Nat} {ops : Array Oper} {y : Code} (h : wpo Tryz.prog (lk Tryz.tl) n ops ops.toList st (nx Tryz.prog n y Q .normal)) : Ok Tryz.prog n (.seq (.region id ops false) y) st Q := Sg Tryz.tok h
theorem rg [R : Rnds] {n : Nat} {st : ASt} {Q : Exit → ASt → Prop} {id : Nat} {ops : Array Oper} (h : wpo Tryz.prog (lk Tryz.tl) n ops ops.toList st (Q .normal)) : Ok Tryz.prog n (.region id ops false) st Q := Ok.region Tryz.tok h
abbrev mI := List.map cU8
abbrev mU := List.map Go.Cat.encI
abbrev mA := List.map c_api_Page
abbrev mB := List.map c_api_Job
abbrev mC := List.map c_api_Disk
abbrev mD := List.map c_api_Chain
abbrev mE := List.map c_api_Find
abbrev mF := List.map cL_c_api_Page
abbrev mG := List.map cL_cU8
theorem w_law28_job {p_have} {p_id} {p_to} {p_left} {r} (h : law28_job p_have p_id p_to p_left = some r) : Pure Tryz.prog 21 [(vi p_have), (vi p_id), (vi p_to), (vi p_left)] (.a [(vi r.Id), (vi r.Ver), (vi r.From), (vi r.To), (vi r.Have), (vi r.Left)]) := by
 refine po Tryz.tok 14 Tryz.func21 (by kernel_rfl) rfl rfl rfl ?_
 unfold law28_job at h
 refine wE [(0, vi p_have), (1, vi p_id), (2, vi p_to), (3, vi p_left)] Q4 ?_
 refine sg ?_
 refine wT [(0, vi p_have), (1, vi p_id), (2, vi p_to), (3, vi p_left), (8, .b 8 0)] [(8, .box [vi (0), vi (0), vi (0), vi (0), vi (0), vi (0)])] Q5 J1 rfl ?_
 refine sg ?_
 refine ⟨_, rfl, ?_⟩
 refine wT [(8, .b 8 0)] [(8, .box [vi p_id, vi (0), vi (9), vi p_to, vi p_have, vi p_left])] Q1 J1 rfl ?_
 refine rt ?_
 cases h
 exact ⟨_, rfl, (Fz.imm rfl)⟩
theorem w_mend_within {p_n} {p_from} {p_to} {r} (h : mend_within p_n p_from p_to = some r) : Pure Tryz.prog 75 [(vi p_n), (vi p_from), (vi p_to)] (vb r) := by
 refine po Tryz.tok 15 Tryz.func75 (by kernel_rfl) rfl rfl rfl ?_
 unfold mend_within at h
 refine wE [(0, vi p_n), (1, vi p_from), (2, vi p_to)] Q3 ?_
 refine sg ?_
 refine wE [(0, vi p_n), (1, vi p_from), (2, vi p_to)] Q3 ?_
 obtain ⟨v1, hv1, h⟩ := bindS h
 refine Ok.seqw ⟨Cat.tab [(6, vb v1)], []⟩ ?_ ?_
 ·refine rg ?_
  obtain ⟨c1, hg1, hv1⟩ := bindS hv1
  refine Br.ite hg1 (fun hb hg1 => ?_) fun hb hg1 => ?_
  ·cases hg1
   cases hv1
   exact wt Q1 Q0 rfl
  cases hg1
  cases hv1
  exact wt Q1 Q0 rfl
 refine rt ?_
 cases h
 exact Fz.v
theorem w_mend_may {p_j} {r} (h : mend_may p_j = some r) : Pure Tryz.prog 43 [(.a [(vi p_j.Id), (vi p_j.Ver), (vi p_j.From), (vi p_j.To), (vi p_j.Have), (vi p_j.Left)])] (vb r) := by
 refine po Tryz.tok 38 Tryz.func43 (by kernel_rfl) rfl rfl rfl ?_
 unfold mend_may at h
 refine wE [(0, .a [vi p_j.Id, vi p_j.Ver, vi p_j.From, vi p_j.To, vi p_j.Have, vi p_j.Left])] Q1 ?_
 refine sg ?_
 refine wT [(1, .b 1 0)] [(1, .box [vi p_j.Id, vi p_j.Ver, vi p_j.From, vi p_j.To, vi p_j.Have, vi p_j.Left])] Q1 J1 rfl ?_
 obtain ⟨v1, hv1, h⟩ := bindS h
 refine Ok.seqw ⟨Cat.tab [(2, vb v1)], []⟩ ?_ ?_
 ·refine rg ?_
  obtain ⟨x1, hx1, hv1⟩ := bindS hv1
  refine ⟨_, rfl, ?_⟩
  refine CallOk.norm (L := [(1, .b 1 0), (4, vi p_j.Id)]) (H' := [(1, .box [vi p_j.Id, vi p_j.Ver, vi p_j.From, vi p_j.To, vi p_j.Have, vi p_j.Left])]) (LeL.refl _) Q2 ⟨⟨_, rfl, .refl _⟩, Q0⟩ rfl (CallOk.call (w_mend_within hx1) (LeL.refl _) ?_)
  obtain ⟨c1, hg1, hv1⟩ := bindS hv1
  refine Br.ite hg1 (fun hb hg1 => ?_) fun hb hg1 => ?_
  ·obtain ⟨x2, hx2, hg1⟩ := bindS hg1
   refine ⟨_, rfl, ?_⟩
   refine CallOk.norm (L := [(1, .b 1 0), (6, .v (.bool true)), (8, vi p_j.Ver)]) (H' := [(1, .box [vi p_j.Id, vi p_j.Ver, vi p_j.From, vi p_j.To, vi p_j.Have, vi p_j.Left])]) (LeL.refl _) Q3 ⟨⟨_, rfl, .refl _⟩, Q0⟩ rfl (CallOk.call (w_mend_within hx2) (LeL.refl _) ?_)
   cases hg1
   obtain ⟨c2, hg2, hv1⟩ := bindS hv1
   refine Br.ite hg2 (fun hb hg2 => ?_) fun hb hg2 => ?_
   ·obtain ⟨x3, hx3, hg2⟩ := bindS hg2
    refine ⟨_, rfl, ?_⟩
    refine CallOk.norm (L := [(1, .b 1 0), (11, .v (.bool true)), (13, vi p_j.From)]) (H' := [(1, .box [vi p_j.Id, vi p_j.Ver, vi p_j.From, vi p_j.To, vi p_j.Have, vi p_j.Left])]) (LeL.refl _) Q3 ⟨⟨_, rfl, .refl _⟩, Q0⟩ rfl (CallOk.call (w_mend_within hx3) (LeL.refl _) ?_)
    cases hg2
    obtain ⟨c3, hg3, hv1⟩ := bindS hv1
    refine Br.ite hg3 (fun hb hg3 => ?_) fun hb hg3 => ?_
    ·obtain ⟨x4, hx4, hg3⟩ := bindS hg3
     refine ⟨_, rfl, ?_⟩
     refine CallOk.norm (L := [(1, .b 1 0), (16, .v (.bool true)), (18, vi p_j.To)]) (H' := [(1, .box [vi p_j.Id, vi p_j.Ver, vi p_j.From, vi p_j.To, vi p_j.Have, vi p_j.Left])]) (LeL.refl _) Q3 ⟨⟨_, rfl, .refl _⟩, Q0⟩ rfl (CallOk.call (w_mend_within hx4) (LeL.refl _) ?_)
     cases hg3
     obtain ⟨c4, hg4, hv1⟩ := bindS hv1
     refine Br.ite hg4 (fun hb hg4 => ?_) fun hb hg4 => ?_
     ·refine ⟨_, rfl, _, rfl, ?_⟩
      cases hg4
      obtain ⟨c5, hg5, hv1⟩ := bindS hv1
      refine Br.ite hg5 (fun hb hg5 => ?_) fun hb hg5 => ?_
      ·obtain ⟨x5, hx5, hg5⟩ := bindS hg5
       refine ⟨_, rfl, ?_⟩
       refine CallOk.norm (L := [(1, .b 1 0), (28, .v (.bool true)), (30, vi p_j.Have)]) (H' := [(1, .box [vi p_j.Id, vi p_j.Ver, vi p_j.From, vi p_j.To, vi p_j.Have, vi p_j.Left])]) (LeL.refl _) Q3 ⟨⟨_, rfl, .refl _⟩, Q0⟩ rfl (CallOk.call (w_mend_within hx5) (LeL.refl _) ?_)
       cases hg5
       obtain ⟨c6, hg6, hv1⟩ := bindS hv1
       refine Br.ite hg6 (fun hb hg6 => ?_) fun hb hg6 => ?_
       ·obtain ⟨x6, hx6, hg6⟩ := bindS hg6
        refine ⟨_, rfl, ?_⟩
        refine CallOk.norm (L := [(33, .v (.bool true)), (35, vi p_j.Left)]) (H' := []) (LeL.refl _) Q2 Q0 rfl (CallOk.call (w_mend_within hx6) (LeL.refl _) ?_)
        cases hg6
        cases hv1
        exact wt Q1 Q0 rfl
       cases hg6
       cases hv1
       exact wt Q1 Q0 rfl
      cases hg5
      obtain ⟨c6, hg7, hv1⟩ := bindS hv1
      replace hg7 := iteF hg7
      cases hg7
      cases hv1
      exact wt Q1 Q0 rfl
     cases hg4
     obtain ⟨c5, hg8, hv1⟩ := bindS hv1
     replace hg8 := iteF hg8
     cases hg8
     obtain ⟨c6, hg9, hv1⟩ := bindS hv1
     replace hg9 := iteF hg9
     cases hg9
     cases hv1
     exact wt Q1 Q0 rfl
    cases hg3
    obtain ⟨c4, hg10, hv1⟩ := bindS hv1
    replace hg10 := iteF hg10
    cases hg10
    obtain ⟨c5, hg11, hv1⟩ := bindS hv1
    replace hg11 := iteF hg11
    cases hg11
    obtain ⟨c6, hg12, hv1⟩ := bindS hv1
    replace hg12 := iteF hg12
    cases hg12
    cases hv1
    exact wt Q1 Q0 rfl
   cases hg2
   obtain ⟨c3, hg13, hv1⟩ := bindS hv1
   replace hg13 := iteF hg13
   cases hg13
   obtain ⟨c4, hg14, hv1⟩ := bindS hv1
   replace hg14 := iteF hg14
   cases hg14
   obtain ⟨c5, hg15, hv1⟩ := bindS hv1
   replace hg15 := iteF hg15
   cases hg15
   obtain ⟨c6, hg16, hv1⟩ := bindS hv1
   replace hg16 := iteF hg16
   cases hg16
   cases hv1
   exact wt Q1 Q0 rfl
  cases hg1
  obtain ⟨c2, hg17, hv1⟩ := bindS hv1
  replace hg17 := iteF hg17
  cases hg17
  obtain ⟨c3, hg18, hv1⟩ := bindS hv1
  replace hg18 := iteF hg18
  cases hg18
  obtain ⟨c4, hg19, hv1⟩ := bindS hv1
  replace hg19 := iteF hg19
  cases hg19
  obtain ⟨c5, hg20, hv1⟩ := bindS hv1
  replace hg20 := iteF hg20
  cases hg20
  obtain ⟨c6, hg21, hv1⟩ := bindS hv1
  replace hg21 := iteF hg21
  cases hg21
  cases hv1
  exact wt Q1 Q0 rfl
 refine rt ?_
 cases h
 exact Fz.v
theorem w_mend_of {p_j} {r} (h : mend_of p_j = some r) : Pure Tryz.prog 45 [(.a [(vi p_j.Id), (vi p_j.Ver), (vi p_j.From), (vi p_j.To), (vi p_j.Have), (vi p_j.Left)])] (.a [(vi r.id_), (vi r.to_)]) := by
 refine po Tryz.tok 8 Tryz.func45 (by kernel_rfl) rfl rfl rfl ?_
 unfold mend_of at h
 refine wE [(0, .a [vi p_j.Id, vi p_j.Ver, vi p_j.From, vi p_j.To, vi p_j.Have, vi p_j.Left])] Q1 ?_
 refine sg ?_
 refine wT [(1, .b 1 0), (2, .b 2 0)] [(1, .box [vi p_j.Id, vi p_j.Ver, vi p_j.From, vi p_j.To, vi p_j.Have, vi p_j.Left]), (2, .box [vi (0), vi (0)])] Q2 J2 rfl ?_
 refine sg ?_
 refine ⟨_, rfl, _, rfl, _, rfl, ?_⟩
 refine wT [(2, .b 2 0)] [(2, .box [vi p_j.Id, vi p_j.To])] Q1 J1 rfl ?_
 refine rt ?_
 cases h
 exact ⟨_, rfl, (Fz.imm rfl)⟩
theorem w_mend_spot_is {p_s} {p_j} {r} (h : mend_spot_is p_s p_j = some r) : Pure Tryz.prog 46 [(.a [(vi p_s.id_), (vi p_s.to_)]), (.a [(vi p_j.Id), (vi p_j.Ver), (vi p_j.From), (vi p_j.To), (vi p_j.Have), (vi p_j.Left)])] (vb r) := by
 refine po Tryz.tok 9 Tryz.func46 (by kernel_rfl) rfl rfl rfl ?_
 unfold mend_spot_is at h
 refine wE [(0, .a [vi p_s.id_, vi p_s.to_]), (1, .a [vi p_j.Id, vi p_j.Ver, vi p_j.From, vi p_j.To, vi p_j.Have, vi p_j.Left])] Q2 ?_
 refine sg ?_
 refine wT [(2, .b 2 0), (3, .b 3 0)] [(2, .box [vi p_s.id_, vi p_s.to_]), (3, .box [vi p_j.Id, vi p_j.Ver, vi p_j.From, vi p_j.To, vi p_j.Have, vi p_j.Left])] Q2 J2 rfl ?_
 refine sq ?_
 refine Ok.draw (m := 5) (MD := ⟨[]⟩) (CH := ⟨[]⟩) Tryz.tok Tryz.mixed (by kernel_rfl) ?_
 obtain ⟨x1, hx1, h⟩ := bindS h
 refine ⟨_, ⟨_, rfl, rfl⟩, _, ⟨_, .of_pure (w_mend_of hx1) (LeL.refl _), rfl⟩, _, ⟨_, rfl, rfl⟩, _, ⟨[.one (.int .i64), .one (.int .i64)], by kernel_rfl, rfl⟩, _, rfl, Q0, ?_⟩
 refine wE [(4, vb (x1.id_ == p_s.id_ && (x1.to_ == p_s.to_ && true)))] Q1 ?_
 refine rt ?_
 cases h
 exact Fz.v
theorem w_slices_IndexFunc_api_Job_api_Job__mend_spot_is {p_s} {p_f_f0} {r} (h : slices_IndexFunc_api_Job_api_Job__mend_spot_is p_s p_f_f0 = some r) : Pure Tryz.prog 51 [(.s (mB p_s)), (.c (.func 46) [(.a [(vi p_f_f0.id_), (vi p_f_f0.to_)])] [])] (vi r) := by
 refine po Tryz.tok 19 Tryz.func51 (by kernel_rfl) rfl rfl rfl ?_
 unfold slices_IndexFunc_api_Job_api_Job__mend_spot_is at h
 refine wE [(0, .s (mB p_s)), (1, .c (.func 46) [.a [vi p_f_f0.id_, vi p_f_f0.to_]] [])] Q2 ?_
 refine sg ?_
 refine wE [(0, .s (mB p_s)), (1, .c (.func 46) [.a [vi p_f_f0.id_, vi p_f_f0.to_]] [])] Q2 ?_
 refine Ok.seqj (fun v1 => ⟨Cat.tab [], []⟩) (fun v1 => slices_IndexFunc_api_Job_api_Job__mend_spot_is_J1 v1 = some r) ?_ ?_
 ·refine sg ?_
  refine ⟨_, List.length_map _, fun _ => ?_⟩
  refine wE [(0, .s (mB p_s)), (1, .c (.func 46) [.a [vi p_f_f0.id_, vi p_f_f0.to_]] []), (7, vi (p_s.length : Int)), (8, vi (0))] Q4 ?_
  refine bl ?_
  refine Ok.loop (fun (s1 : Int) => ⟨Cat.tab [(0, .s (mB p_s)), (1, .c (.func 46) [.a [vi p_f_f0.id_, vi p_f_f0.to_]] []), (7, vi (p_s.length : Int)), (8, vi s1)], []⟩) (slices_IndexFunc_api_Job_api_Job__mend_spot_is_B1 p_s p_f_f0) (s0 := 0) h (wt Q4 Q0 rfl) ?_
  intro s1 y1 hB1 hy1
  unfold slices_IndexFunc_api_Job_api_Job__mend_spot_is_B1 at hB1
  refine sg ?_
  refine wE [(0, .s (mB p_s)), (1, .c (.func 46) [.a [vi p_f_f0.id_, vi p_f_f0.to_]] []), (7, vi (p_s.length : Int)), (8, vi s1), (9, vb (decide (s1 < (p_s.length : Int))))] Q5 ?_
  refine sq ?_
  refine cn 9 (decide (s1 < (p_s.length : Int))) rfl hB1 (fun hb hB1 => ?_) fun hb hB1 => ?_
  ·refine sk ?_
   refine sq ?_
   refine bl ?_
   refine sg ?_
   refine wE [(0, .s (mB p_s)), (1, .c (.func 46) [.a [vi p_f_f0.id_, vi p_f_f0.to_]] []), (5, vi s1), (7, vi (p_s.length : Int)), (8, vi s1)] Q5 ?_
   refine sg ?_
   obtain ⟨x1, hx1, hB1⟩ := bindS hB1
   obtain ⟨x2, hx2, hB1⟩ := bindS hB1
   refine ⟨_, idx_nat hx1, _, idx_row hx1, _, rfl, ?_⟩
   refine CallOk.call (w_mend_spot_is hx2) (LeL.refl _) ?_
   refine wE [(0, .s (mB p_s)), (1, .c (.func 46) [.a [vi p_f_f0.id_, vi p_f_f0.to_]] []), (5, vi s1), (7, vi (p_s.length : Int)), (8, vi s1), (16, vb x2)] Q6 ?_
   refine cn 16 (x2) rfl hB1 (fun hb hB1 => ?_) fun hb hB1 => ?_
   ·refine sg ?_
    refine wE [(4, vi s1)] Q1 ?_
    refine rt ?_
    have hB1 := out_ret hB1 hy1
    cases hB1
    exact Fz.v
   refine sk ?_
   refine rg ?_
   obtain ⟨hc1, hB1⟩ := chk_some hB1
   refine (Or.inl ⟨hc1, ?_⟩)
   exact ⟨_, sj hB1, wt Q4 Q0 rfl⟩
  refine xt ?_
  have hB1 := out_ret hB1 hy1
  exact ⟨_, hB1, wt Q0 Q0 rfl⟩
 intro v1 h
 unfold slices_IndexFunc_api_Job_api_Job__mend_spot_is_J1 at h
 refine sg ?_
 refine wE [(4, vi (-1))] Q1 ?_
 refine rt ?_
 cases h
 exact Fz.v
theorem w_slices_ContainsFunc_api_Job_api_Job__mend_spot_is {p_s} {p_f_f0} {r} (h : slices_ContainsFunc_api_Job_api_Job__mend_spot_is p_s p_f_f0 = some r) : Pure Tryz.prog 44 [(.s (mB p_s)), (.c (.func 46) [(.a [(vi p_f_f0.id_), (vi p_f_f0.to_)])] [])] (vb r) := by
 refine po Tryz.tok 9 Tryz.func44 (by kernel_rfl) rfl rfl rfl ?_
 unfold slices_ContainsFunc_api_Job_api_Job__mend_spot_is at h
 refine wE [(0, .s (mB p_s)), (1, .c (.func 46) [.a [vi p_f_f0.id_, vi p_f_f0.to_]] [])] Q2 ?_
 refine sg ?_
 refine wE [(0, .s (mB p_s)), (1, .c (.func 46) [.a [vi p_f_f0.id_, vi p_f_f0.to_]] [])] Q2 ?_
 refine sg ?_
 obtain ⟨x1, hx1, h⟩ := bindS h
 refine CallOk.call (w_slices_IndexFunc_api_Job_api_Job__mend_spot_is hx1) (LeL.refl _) ?_
 refine wE [(4, vb (decide (x1 ≥ 0)))] Q1 ?_
 refine rt ?_
 cases h
 exact Fz.v
theorem w_cmp_isNaN_int {p_x} {r} (h : cmp_isNaN_int p_x = some r) : Pure Tryz.prog 66 [(vi p_x)] (vb r) := by
 refine po Tryz.tok 6 Tryz.func66 (by kernel_rfl) rfl rfl rfl ?_
 unfold cmp_isNaN_int at h
 refine wE [(0, vi p_x)] Q1 ?_
 refine sg ?_
 refine wE [(0, vi p_x)] Q1 ?_
 refine sg ?_
 refine wE [(2, vb (p_x != p_x))] Q1 ?_
 refine rt ?_
 cases h
 exact Fz.v
theorem w_cmp_Compare_int {p_x} {p_y} {r} (h : cmp_Compare_int p_x p_y = some r) : Pure Tryz.prog 40 [(vi p_x), (vi p_y)] (vi r) := by
 refine po Tryz.tok 20 Tryz.func40 (by kernel_rfl) rfl rfl rfl ?_
 unfold cmp_Compare_int at h
 refine wE [(0, vi p_x), (1, vi p_y)] Q2 ?_
 refine sg ?_
 refine wE [(0, vi p_x), (1, vi p_y)] Q2 ?_
 refine sg ?_
 obtain ⟨x1, hx1, h⟩ := bindS h
 refine CallOk.call (w_cmp_isNaN_int hx1) (LeL.refl _) ?_
 refine wE [(0, vi p_x), (1, vi p_y), (5, vb x1)] Q3 ?_
 refine sg ?_
 obtain ⟨x2, hx2, h⟩ := bindS h
 refine CallOk.call (w_cmp_isNaN_int hx2) (LeL.refl _) ?_
 refine wE [(0, vi p_x), (1, vi p_y), (5, vb x1), (6, vb x2)] Q4 ?_
 refine sq ?_
 refine sg ?_
 refine wE [(0, vi p_x), (1, vi p_y), (6, vb x2), (11, vb x1)] Q4 ?_
 refine cn 11 (x1) rfl h (fun hb h => ?_) fun hb h => ?_
 ·refine sq ?_
  refine sg ?_
  refine wE [(12, vb x2)] Q1 ?_
  refine cn 12 (x2) rfl h (fun hb h => ?_) fun hb h => ?_
  ·refine sg ?_
   refine wE [(4, vi (0))] Q1 ?_
   refine rt ?_
   cases h
   exact Fz.v
  refine sk ?_
  refine sg ?_
  refine wE [(4, vi (-1))] Q1 ?_
  refine rt ?_
  cases h
  exact Fz.v
 refine sk ?_
 refine sq ?_
 refine sg ?_
 refine wE [(0, vi p_x), (1, vi p_y), (13, vb x2)] Q3 ?_
 refine cn 13 (x2) rfl h (fun hb h => ?_) fun hb h => ?_
 ·refine sg ?_
  refine wE [(4, vi (1))] Q1 ?_
  refine rt ?_
  cases h
  exact Fz.v
 refine sk ?_
 refine sq ?_
 refine sg ?_
 refine wE [(0, vi p_x), (1, vi p_y), (16, vb (decide (p_x < p_y)))] Q3 ?_
 refine cn 16 (decide (p_x < p_y)) rfl h (fun hb h => ?_) fun hb h => ?_
 ·refine sg ?_
  refine wE [(4, vi (-1))] Q1 ?_
  refine rt ?_
  cases h
  exact Fz.v
 refine sk ?_
 refine sq ?_
 refine sg ?_
 refine wE [(19, vb (decide (p_x > p_y)))] Q1 ?_
 refine cn 19 (decide (p_x > p_y)) rfl h (fun hb h => ?_) fun hb h => ?_
 ·refine sg ?_
  refine wE [(4, vi (1))] Q1 ?_
  refine rt ?_
  cases h
  exact Fz.v
 refine sk ?_
 refine sg ?_
 refine wE [(4, vi (0))] Q1 ?_
 refine rt ?_
 cases h
 exact Fz.v
theorem w_cmp_Or_int {p_vals} {r} (h : cmp_Or_int p_vals = some r) : Pure Tryz.prog 77 [(.s (mU p_vals))] (vi r) := by
 refine po Tryz.tok 18 Tryz.func77 (by kernel_rfl) rfl rfl rfl ?_
 unfold cmp_Or_int at h
 refine wE [(0, .s (mU p_vals))] Q1 ?_
 refine sg ?_
 refine wE [(0, .s (mU p_vals))] Q1 ?_
 refine sg ?_
 refine wE [(0, .s (mU p_vals)), (3, vi (0))] Q2 ?_
 refine Ok.seqj (fun v1 => ⟨Cat.tab [(3, vi (0))], []⟩) (fun v1 => cmp_Or_int_J1 v1 = some r) ?_ ?_
 ·refine sg ?_
  refine ⟨_, List.length_map _, fun _ => ?_⟩
  refine wE [(3, vi (0)), (6, .s (mU p_vals)), (7, vi (p_vals.length : Int)), (8, vi (0))] Q4 ?_
  refine bl ?_
  refine Ok.loop (fun (s1 : Int) => ⟨Cat.tab [(3, vi (0)), (6, .s (mU p_vals)), (7, vi (p_vals.length : Int)), (8, vi s1)], []⟩) (cmp_Or_int_B1 p_vals) (s0 := 0) h (wt Q4 Q0 rfl) ?_
  intro s1 y1 hB1 hy1
  unfold cmp_Or_int_B1 at hB1
  refine sg ?_
  refine wE [(3, vi (0)), (6, .s (mU p_vals)), (7, vi (p_vals.length : Int)), (8, vi s1), (9, vb (decide (s1 < (p_vals.length : Int))))] Q5 ?_
  refine sq ?_
  refine cn 9 (decide (s1 < (p_vals.length : Int))) rfl hB1 (fun hb hB1 => ?_) fun hb hB1 => ?_
  ·refine sk ?_
   refine sq ?_
   refine bl ?_
   refine sg ?_
   obtain ⟨x1, hx1, hB1⟩ := bindS hB1
   refine ⟨_, idx_nat hx1, _, idx_row hx1, _, rfl, ?_⟩
   refine wE [(3, vi (0)), (5, vi x1), (6, .s (mU p_vals)), (7, vi (p_vals.length : Int)), (8, vi s1)] Q5 ?_
   refine sg ?_
   refine wE [(3, vi (0)), (5, vi x1), (6, .s (mU p_vals)), (7, vi (p_vals.length : Int)), (8, vi s1), (14, vb (x1 != 0))] Q6 ?_
   refine cn 14 (x1 != 0) rfl hB1 (fun hb hB1 => ?_) fun hb hB1 => ?_
   ·refine sg ?_
    refine wE [(2, vi x1)] Q1 ?_
    refine rt ?_
    have hB1 := out_ret hB1 hy1
    cases hB1
    exact Fz.v
   refine sk ?_
   refine rg ?_
   obtain ⟨hc1, hB1⟩ := chk_some hB1
   refine (Or.inl ⟨hc1, ?_⟩)
   exact ⟨_, sj hB1, wt Q4 Q0 rfl⟩
  refine xt ?_
  have hB1 := out_ret hB1 hy1
  exact ⟨_, hB1, wt Q1 Q0 rfl⟩
 intro v1 h
 unfold cmp_Or_int_J1 at h
 refine sg ?_
 refine wE [(2, vi (0))] Q1 ?_
 refine rt ?_
 cases h
 exact Fz.v
theorem w_mend_against {p_a} {p_b} {r} (h : mend_against p_a p_b = some r) : Pure Tryz.prog 48 [(.a [(vi p_a.Id), (vi p_a.Ver), (vi p_a.From), (vi p_a.To), (vi p_a.Have), (vi p_a.Left)]), (.a [(vi p_b.Id), (vi p_b.Ver), (vi p_b.From), (vi p_b.To), (vi p_b.Have), (vi p_b.Left)])] (vi r) := by
 refine po Tryz.tok 22 Tryz.func48 (by kernel_rfl) rfl rfl rfl ?_
 unfold mend_against at h
 refine wE [(0, .a [vi p_a.Id, vi p_a.Ver, vi p_a.From, vi p_a.To, vi p_a.Have, vi p_a.Left]), (1, .a [vi p_b.Id, vi p_b.Ver, vi p_b.From, vi p_b.To, vi p_b.Have, vi p_b.Left])] Q2 ?_
 refine sg ?_
 refine wT [(2, .b 2 0), (3, .b 3 0)] [(2, .box [vi p_a.Id, vi p_a.Ver, vi p_a.From, vi p_a.To, vi p_a.Have, vi p_a.Left]), (3, .box [vi p_b.Id, vi p_b.Ver, vi p_b.From, vi p_b.To, vi p_b.Have, vi p_b.Left])] Q2 J2 rfl ?_
 refine sq ?_
 refine Ok.draw (m := 18) (MD := ⟨[]⟩) (CH := ⟨[]⟩) Tryz.tok Tryz.mixed (by kernel_rfl) ?_
 obtain ⟨x1, hx1, h⟩ := bindS h
 obtain ⟨x2, hx2, h⟩ := bindS h
 obtain ⟨x3, hx3, h⟩ := bindS h
 obtain ⟨x4, hx4, h⟩ := bindS h
 refine ⟨_, rfl, _, ⟨_, rfl, rfl⟩, _, rfl, _, ⟨_, rfl, rfl⟩, _, ⟨_, .of_pure (w_cmp_Compare_int hx1) (LeL.refl _), rfl⟩, _, rfl, _, ⟨_, rfl, rfl⟩, _, rfl, _, ⟨_, rfl, rfl⟩, _, ⟨_, .of_pure (w_cmp_Compare_int hx2) (LeL.refl _), rfl⟩, _, rfl, _, ⟨_, rfl, rfl⟩, _, rfl, _, ⟨_, rfl, rfl⟩, _, ⟨_, .of_pure (w_cmp_Compare_int hx3) (LeL.refl _), rfl⟩, _, rfl, _, ⟨_, .of_pure (w_cmp_Or_int hx4) (LeL.refl _), rfl⟩, _, rfl, Q0, ?_⟩
 refine wE [(4, vi x4)] Q1 ?_
 refine rt ?_
 cases h
 exact Fz.v
theorem wo_mend_Order {p_l} {r} (h : mend_Order p_l = some r) : POwn Tryz.prog 17 [(.s (mB p_l))] 47 6 (mB r) := by
 refine pw Tryz.tok 30 Tryz.func17 (by kernel_rfl) rfl rfl rfl ?_
 unfold mend_Order at h
 refine wE [(0, .s (mB p_l))] Q1 ?_
 refine sg ?_
 refine wE [(0, .s (mB p_l))] Q1 ?_
 refine sg ?_
 refine wE [(0, .s (mB p_l)), (3, .v (.slice none 0 0))] Q2 ?_
 obtain ⟨v1, hv1, h⟩ := bindS h
 refine Ok.seqw ⟨Cat.tab [(3, .o 25)], [(25, .own 47 6 (mB v1))]⟩ ?_ ?_
 ·refine sg ?_
  refine ⟨_, List.length_map _, fun _ => ?_⟩
  refine wE [(3, .v (.slice none 0 0)), (6, .s (mB p_l)), (7, vi (p_l.length : Int)), (8, vi (0))] Q4 ?_
  refine bl ?_
  refine Ok.loop (fun (s1 : Int × (List api_Job)) => ⟨Cat.tab [(3, .o 25), (6, .s (mB p_l)), (7, vi (p_l.length : Int)), (8, vi s1.1)], [(25, .own 47 6 (mB s1.2))]⟩) (mend_Order_B1 p_l) (s0 := (0, [])) hv1 ((Wk.own0 (t := 3) (id := 25) (E := 47) (K := 6) rfl rfl).trans (wt Q4 ⟨⟨_, rfl, .refl _⟩, Q0⟩ rfl)) ?_
  intro s1 y1 hB1 hy1
  unfold mend_Order_B1 at hB1
  refine sg ?_
  refine wT [(3, .o 25), (6, .s (mB p_l)), (7, vi (p_l.length : Int)), (8, vi s1.1), (9, vb (decide (s1.1 < (p_l.length : Int))))] [(25, .own 47 6 (mB s1.2))] Q5 J1 rfl ?_
  refine sq ?_
  refine cn 9 (decide (s1.1 < (p_l.length : Int))) rfl hB1 (fun hb hB1 => ?_) fun hb hB1 => ?_
  ·refine sk ?_
   obtain ⟨v2, hv2, hB1⟩ := bindS hB1
   refine Ok.seqw ⟨Cat.tab [(3, .o 25), (6, .s (mB p_l)), (7, vi (p_l.length : Int)), (8, vi s1.1)], [(25, .own 47 6 (mB v2))]⟩ ?_ ?_
   ·refine bl ?_
    refine sg ?_
    obtain ⟨x1, hx1, hv2⟩ := bindS hv2
    refine ⟨_, idx_nat hx1, _, idx_row hx1, _, rfl, _, rfl, ?_⟩
    refine wT [(3, .o 25), (5, .b 5 0), (6, .s (mB p_l)), (7, vi (p_l.length : Int)), (8, vi s1.1)] [(25, .own 47 6 (mB s1.2)), (5, .box [vi x1.Id, vi x1.Ver, vi x1.From, vi x1.To, vi x1.Have, vi x1.Left])] Q5 J2 rfl ?_
    obtain ⟨v3, hv3, hv2⟩ := bindS hv2
    refine Ok.seqw ⟨Cat.tab [(3, .o 25), (5, .b 5 0), (6, .s (mB p_l)), (7, vi (p_l.length : Int)), (8, vi s1.1), (21, vb v3)], [(25, .own 47 6 (mB s1.2)), (5, .box [vi x1.Id, vi x1.Ver, vi x1.From, vi x1.To, vi x1.Have, vi x1.Left])]⟩ ?_ ?_
    ·refine rg ?_
     obtain ⟨x2, hx2, hv3⟩ := bindS hv3
     refine ⟨_, rfl, ?_⟩
     refine CallOk.call (w_mend_may hx2) (LeL.refl _) ?_
     obtain ⟨c1, hg1, hv3⟩ := bindS hv3
     refine Br.ite hg1 (fun hb hg1 => ?_) fun hb hg1 => ?_
     ·obtain ⟨x3, hx3, hg1⟩ := bindS hg1
      refine ⟨_, rfl, ?_⟩
      refine CallOk.call (w_mend_of hx3) (LeL.refl _) ?_
      obtain ⟨x4, hx4, hg1⟩ := bindS hg1
      refine CallOk.borrow (w_slices_ContainsFunc_api_Job_api_Job__mend_spot_is hx4) (.cons (Fz.o rfl) (.cons (Fz.c (.cons (Fz.a (.cons Fz.v (.cons Fz.v .nil))) .nil) .nil) (.nil))) rfl ?_
      cases hg1
      cases hv3
      exact wt Q6 J2 rfl
     cases hg1
     cases hv3
     exact wt Q6 J2 rfl
    refine cn 21 (v3) rfl hv2 (fun hb hv2 => ?_) fun hb hv2 => ?_
    ·refine rg ?_
     obtain ⟨hc1, hv2⟩ := chk_some hv2
     refine ⟨_, rfl, Or.inl ⟨rowsLen_map (f := c_api_Job) (n := 6) (fun _ => rfl) ([x1]), app_b2 (f := c_api_Job) (l := s1.2) (l' := [x1]) hc1, _, (List.map_append (f := c_api_Job) (l₁ := s1.2) (l₂ := [x1])).symm, ?_⟩⟩
     cases hv2
     exact wt Q4 J1 rfl
    refine sk ?_
    cases hv2
    exact wt Q4 J1 rfl
   refine rg ?_
   obtain ⟨hc2, hB1⟩ := chk_some hB1
   refine (Or.inl ⟨hc2, ?_⟩)
   exact ⟨_, sj hB1, wt Q4 J1 rfl⟩
  refine xt ?_
  have hB1 := out_ret hB1 hy1
  cases hB1
  exact wt Q1 J1 rfl
 refine sg ?_
 obtain ⟨x5, hx5, h⟩ := bindS h
 refine CallOk.chgLe (id := 25) (pchg_sortF (E := 47) (enc := c_api_Job) Tryz.says47 Tryz.enters47 (fun _ => rfl) (fun _ => rfl) (fun _ _ _ h => w_mend_against (M := Mono.yes) h) (enters_of Tryz.func48 (by kernel_rfl) rfl) hx5) rfl (.refl _) rfl (.cons Lr.o (.cons (Lr.imm rfl) .nil)) ?_
 rintro _ _ ⟨rfl, rfl⟩
 refine wT [(3, .o 25)] [(25, .own 47 6 (mB x5))] Q1 J1 rfl ?_
 refine sg ?_
 refine wT [(2, .o 25)] [(25, .own 47 6 (mB x5))] Q1 J1 rfl ?_
 refine rt ?_
 cases h
 exact (.inr ⟨_, rfl, rfl⟩)
theorem w_mend_Order {p_l} {r} (h : mend_Order p_l = some r) : Pure Tryz.prog 17 [(.s (mB p_l))] (.s (mB r)) := (wo_mend_Order h).pure
theorem wo_slices_Clone_api_Job_api_Job {p_s} {r} (h : slices_Clone_api_Job_api_Job p_s = some r) : POwn Tryz.prog 50 [(.s (mB p_s))] 47 6 (mB r) := by
 refine pw Tryz.tok 8 Tryz.func50 (by kernel_rfl) rfl rfl rfl ?_
 unfold slices_Clone_api_Job_api_Job at h
 refine wE [(0, .s (mB p_s))] Q1 ?_
 refine sg ?_
 refine wE [(0, .s (mB p_s))] Q1 ?_
 refine sq ?_
 refine sg ?_
 intro b1 hb1
 have h := anyOf_some h b1 (fun e => List.map_eq_nil_iff.1 (hb1 e))
 refine wE [(0, .s (mB p_s)), (4, vb b1)] Q2 ?_
 refine cn 4 (b1) rfl h (fun hb h => ?_) fun hb h => ?_
 ·refine sg ?_
  refine wE [(2, .v (.slice none 0 0))] Q1 ?_
  refine rt ?_
  cases h
  exact (.inl ⟨rfl, rfl⟩)
 refine sk ?_
 refine sg ?_
 obtain ⟨hc1, h⟩ := chk_some h
 refine Or.inr ⟨rowsLen_map (f := c_api_Job) (n := 6) (fun _ => rfl) p_s, app_b2 (f := c_api_Job) (l := ([] : List api_Job)) (l' := p_s) hc1, _, (List.map_append (f := c_api_Job) (l₁ := ([] : List api_Job)) (l₂ := p_s)).symm, ?_⟩
 refine wT [(2, .o 5)] [(5, .own 47 6 (mB (([] : List api_Job) ++ p_s)))] Q1 J1 rfl ?_
 refine rt ?_
 cases h
 exact (.inr ⟨_, rfl, rfl⟩)
theorem w_mend_Step {p_l} {p_budget} {r} (h : mend_Step p_l p_budget = some r) : Pure Tryz.prog 22 [(.s (mB p_l)), (vi p_budget)] (.t [(.s (mB r.1)), (.s (mB r.2))]) := by
 refine po Tryz.tok 44 Tryz.func22 (by kernel_rfl) rfl rfl rfl ?_
 unfold mend_Step at h
 refine wE [(0, .s (mB p_l)), (1, vi p_budget)] Q2 ?_
 refine sg ?_
 refine wE [(0, .s (mB p_l)), (1, vi p_budget)] Q2 ?_
 refine Ok.scope ?_
 refine sg ?_
 refine wE [(0, .s (mB p_l)), (1, vi p_budget), (6, .v (.slice none 0 0))] Q3 ?_
 refine sg ?_
 obtain ⟨x1, hx1, h⟩ := bindS h
 refine CallOk.own (D := 10) (wo_slices_Clone_api_Job_api_Job hx1) (LeL.refl _) rfl ?_
 refine wT [(1, vi p_budget), (6, .v (.slice none 0 0)), (7, .o 10)] [(10, .own 47 6 (mB x1))] Q3 J1 rfl ?_
 refine sq ?_
 refine Ok.label ?_
 obtain ⟨v1, hv1, h⟩ := bindS h
 refine Ok.seqw ⟨Cat.tab [(6, .o 39), (7, .w 10 6 v1.1)], [(39, .own 47 6 (mB v1.2.1)), (10, .own 47 6 (mB v1.2.2))]⟩ ?_ ?_
 ·refine bl ?_
  refine Ok.loop (fun (s1 : Int × Nat × (List api_Job)) => ⟨Cat.tab [(1, vi s1.1), (6, .o 39), (7, .w 10 6 s1.2.1)], [(39, .own 47 6 (mB s1.2.2)), (10, .own 47 6 (mB x1))]⟩) (mend_Step_B1 x1) (s0 := (p_budget, 0, [])) hv1 ((Wk.own0 (t := 6) (id := 39) (E := 47) (K := 6) rfl rfl).trans (wt ⟨lr, lr, Le.ow, Q0⟩ ⟨⟨_, rfl, .refl _⟩, ⟨_, rfl, .refl _⟩, Q0⟩ rfl)) ?_
  intro s1 y1 hB1 hy1
  unfold mend_Step_B1 at hB1
  refine sq ?_
  refine sg ?_
  refine ⟨_, wlen _ _, fun _ => ?_⟩
  refine wT [(1, vi s1.1), (6, .o 39), (7, .w 10 6 s1.2.1), (13, vb (decide (((x1.drop s1.2.1).length : Int) > 0)))] [(39, .own 47 6 (mB s1.2.2)), (10, .own 47 6 (mB x1))] Q4 J2 rfl ?_
  refine cn 13 (decide (((x1.drop s1.2.1).length : Int) > 0)) rfl hB1 (fun hb hB1 => ?_) fun hb hB1 => ?_
  ·refine sk ?_
   refine bl ?_
   refine sg ?_
   obtain ⟨x2, hx2, hB1⟩ := bindS hB1
   refine ⟨_, idx_nat hx2, idx_ltd hx2, _, idx_rowd hx2, rfl, _, rfl, _, rfl, ?_⟩
   refine wT [(1, vi s1.1), (6, .o 39), (7, .w 10 6 s1.2.1), (8, .b 8 0)] [(39, .own 47 6 (mB s1.2.2)), (10, .own 47 6 (mB x1)), (8, .box [vi x2.Id, vi x2.Ver, vi x2.From, vi x2.To, vi x2.Have, vi x2.Left])] Q4 J3 rfl ?_
   refine bl ?_
   refine sg ?_
   refine ⟨_, rfl, ?_⟩
   refine wT [(1, vi s1.1), (6, .o 39), (7, .w 10 6 s1.2.1), (8, .b 8 0), (26, vb (decide (s1.1 ≥ x2.Left)))] [(39, .own 47 6 (mB s1.2.2)), (10, .own 47 6 (mB x1)), (8, .box [vi x2.Id, vi x2.Ver, vi x2.From, vi x2.To, vi x2.Have, vi x2.Left])] Q5 J3 rfl ?_
   refine cn 26 (decide (s1.1 ≥ x2.Left)) rfl hB1 (fun hb hB1 => ?_) fun hb hB1 => ?_
   ·refine sg ?_
    obtain ⟨hc1, hB1⟩ := chk_some hB1
    refine ⟨_, rfl, (Or.inl ⟨hc1, ?_⟩)⟩
    refine wT [(1, vi (s1.1 - x2.Left)), (6, .o 39), (7, .w 10 6 s1.2.1), (8, .b 8 0)] [(39, .own 47 6 (mB s1.2.2)), (10, .own 47 6 (mB x1)), (8, .box [vi x2.Id, vi x2.Ver, vi x2.From, vi x2.To, vi x2.Have, vi x2.Left])] Q4 J3 rfl ?_
    refine sg ?_
    refine ⟨_, rfl, ?_⟩
    refine wT [(1, vi (s1.1 - x2.Left)), (6, .o 39), (7, .w 10 6 s1.2.1), (8, .b 8 0)] [(39, .own 47 6 (mB s1.2.2)), (10, .own 47 6 (mB x1)), (8, .box [vi x2.Id, vi x2.Ver, vi x2.From, vi x2.To, vi x2.Have, vi (0)])] Q4 J3 rfl ?_
    refine sg ?_
    obtain ⟨hc2, hB1⟩ := chk_some hB1
    refine ⟨_, rfl, Or.inl ⟨rowsLen_map (f := c_api_Job) (n := 6) (fun _ => rfl) ([(⟨x2.Id, x2.Ver, x2.From, x2.To, x2.Have, 0⟩ : api_Job)]), app_b2 (f := c_api_Job) (l := s1.2.2) (l' := [(⟨x2.Id, x2.Ver, x2.From, x2.To, x2.Have, 0⟩ : api_Job)]) hc2, _, (List.map_append (f := c_api_Job) (l₁ := s1.2.2) (l₂ := [(⟨x2.Id, x2.Ver, x2.From, x2.To, x2.Have, 0⟩ : api_Job)])).symm, ?_⟩⟩
    refine wT [(1, vi (s1.1 - x2.Left)), (6, .o 39), (7, .w 10 6 s1.2.1)] [(39, .own 47 6 (mB (s1.2.2 ++ [(⟨x2.Id, x2.Ver, x2.From, x2.To, x2.Have, 0⟩ : api_Job)]))), (10, .own 47 6 (mB x1))] Q3 J2 rfl ?_
    refine rg ?_
    obtain ⟨hc3, hB1⟩ := chk_some hB1
    refine ⟨1, rfl, wsl' hc3, ?_⟩
    exact ⟨_, sj hB1, wt Q3 J2 rfl⟩
   refine sg ?_
   obtain ⟨x3, hx3, hB1⟩ := bindS hB1
   obtain ⟨hc4, hB1⟩ := chk_some hB1
   obtain ⟨x4, hx4, hB1⟩ := bindS hB1
   refine ⟨_, idx_nat hx3, idx_ltd hx3, _, idx_rowd hx3, rfl, _, rfl, _, rfl, (Or.inl ⟨hc4, _, idx_nat hx4, idx_ltd hx4, _, idx_rowd hx4, rfl, _, rfl, _, set_row (f := c_api_Job) (x := (⟨x4.Id, x4.Ver, x4.From, x4.To, x4.Have, (x3.Left - (max s1.1 (0)))⟩ : api_Job)), ?_⟩)⟩
   refine wT [(6, .o 39), (7, .w 10 6 s1.2.1)] [(39, .own 47 6 (mB s1.2.2)), (10, .own 47 6 (mB (x1.set (s1.2.1 + (0 : Int).toNat) (⟨x4.Id, x4.Ver, x4.From, x4.To, x4.Have, (x3.Left - (max s1.1 (0)))⟩ : api_Job))))] Q2 J2 rfl ?_
   refine xt ?_
   have hB1 := out_ret hB1 hy1
   cases hB1
   exact wt Q2 J2 rfl
  refine xt ?_
  have hB1 := out_ret hB1 hy1
  cases hB1
  exact wt Q2 J2 rfl
 refine sg ?_
 refine wT [(4, .w 10 6 v1.1), (5, .o 39)] [(10, .own 47 6 (mB v1.2.2)), (39, .own 47 6 (mB v1.2.1))] Q2 J2 rfl ?_
 refine rt ?_
 cases h
 exact (Fz.t (.cons (Fz.wm rfl) (.cons (Fz.o rfl) .nil)))
theorem wo_mend_Renew {p_l} {p_plan} {r} (h : mend_Renew p_l p_plan = some r) : POwn Tryz.prog 23 [(.s (mB p_l)), (.s (mB p_plan))] 47 6 (mB r) := by
 refine pw Tryz.tok 49 Tryz.func23 (by kernel_rfl) rfl rfl rfl ?_
 unfold mend_Renew at h
 refine wE [(0, .s (mB p_l)), (1, .s (mB p_plan))] Q2 ?_
 refine sg ?_
 refine wE [(0, .s (mB p_l)), (1, .s (mB p_plan))] Q2 ?_
 refine sg ?_
 obtain ⟨x1, hx1, h⟩ := bindS h
 refine CallOk.own (D := 10) (wo_slices_Clone_api_Job_api_Job hx1) (LeL.refl _) rfl ?_
 refine wT [(0, .s (mB p_l)), (5, .o 10)] [(10, .own 47 6 (mB x1))] Q2 J1 rfl ?_
 obtain ⟨v1, hv1, h⟩ := bindS h
 refine Ok.seqw ⟨Cat.tab [(5, .o 10)], [(10, .own 47 6 (mB v1))]⟩ ?_ ?_
 ·refine sg ?_
  refine ⟨_, List.length_map _, fun _ => ?_⟩
  refine wT [(0, .s (mB p_l)), (5, .o 10), (11, .o 10), (12, vi (x1.length : Int)), (13, vi (0))] [(10, .own 47 6 (mB x1))] Q5 J1 rfl ?_
  refine bl ?_
  refine Ok.loop (fun (s1 : Int × (List api_Job)) => ⟨Cat.tab [(0, .s (mB p_l)), (5, .o 10), (11, .o 10), (12, vi (x1.length : Int)), (13, vi s1.1)], [(10, .own 47 6 (mB s1.2))]⟩) (mend_Renew_B1 x1 p_l) (s0 := (0, x1)) hv1 (wt Q5 ⟨⟨_, rfl, .refl _⟩, Q0⟩ rfl) ?_
  intro s1 y1 hB1 hy1
  unfold mend_Renew_B1 at hB1
  refine sg ?_
  refine wT [(0, .s (mB p_l)), (5, .o 10), (11, .o 10), (12, vi (x1.length : Int)), (13, vi s1.1), (14, vb (decide (s1.1 < (x1.length : Int))))] [(10, .own 47 6 (mB s1.2))] Q6 J1 rfl ?_
  refine sq ?_
  refine cn 14 (decide (s1.1 < (x1.length : Int))) rfl hB1 (fun hb hB1 => ?_) fun hb hB1 => ?_
  ·refine sk ?_
   obtain ⟨v2, hv2, hB1⟩ := bindS hB1
   refine Ok.seqw ⟨Cat.tab [(0, .s (mB p_l)), (5, .o 10), (11, .o 10), (12, vi (x1.length : Int)), (13, vi s1.1)], [(10, .own 47 6 (mB v2))]⟩ ?_ ?_
   ·refine bl ?_
    refine sg ?_
    obtain ⟨x2, hx2, hv2⟩ := bindS hv2
    refine ⟨_, idx_nat hx2, idx_ltm hx2, _, idx_row hx2, rfl, _, rfl, _, rfl, ?_⟩
    refine wT [(0, .s (mB p_l)), (5, .o 10), (6, vi s1.1), (7, .b 7 0), (11, .o 10), (12, vi (x1.length : Int)), (13, vi s1.1)] [(10, .own 47 6 (mB s1.2)), (7, .box [vi x2.Id, vi x2.Ver, vi x2.From, vi x2.To, vi x2.Have, vi x2.Left])] Q7 J2 rfl ?_
    refine sg ?_
    obtain ⟨x3, hx3, hv2⟩ := bindS hv2
    refine ⟨_, rfl, ?_⟩
    refine CallOk.call (w_mend_of hx3) (LeL.refl _) ?_
    obtain ⟨x4, hx4, hv2⟩ := bindS hv2
    refine CallOk.call (w_slices_IndexFunc_api_Job_api_Job__mend_spot_is hx4) (LeL.refl _) ?_
    refine wT [(0, .s (mB p_l)), (5, .o 10), (6, vi s1.1), (7, .b 7 0), (8, vi x4), (11, .o 10), (12, vi (x1.length : Int)), (13, vi s1.1)] [(10, .own 47 6 (mB s1.2)), (7, .box [vi x2.Id, vi x2.Ver, vi x2.From, vi x2.To, vi x2.Have, vi x2.Left])] Q8 J2 rfl ?_
    obtain ⟨v3, hv3, hv2⟩ := bindS hv2
    refine Ok.seqw ⟨Cat.tab [(0, .s (mB p_l)), (5, .o 10), (6, vi s1.1), (7, .b 7 0), (8, vi x4), (11, .o 10), (12, vi (x1.length : Int)), (13, vi s1.1), (34, vb v3)], [(10, .own 47 6 (mB s1.2)), (7, .box [vi x2.Id, vi x2.Ver, vi x2.From, vi x2.To, vi x2.Have, vi x2.Left])]⟩ ?_ ?_
    ·refine Ok.draw (m := 12) (MD := ⟨[]⟩) (CH := ⟨[]⟩) Tryz.tok Tryz.mixed (by kernel_rfl) ?_
     refine ⟨_, rfl, _, rfl, _, rfl, ?_⟩
     obtain ⟨c1, hg1, hv3⟩ := bindS hv3
     refine Br.ite hg1 (fun hb hg1 => ?_) fun hb hg1 => ?_
     ·obtain ⟨x5, hx5, hg1⟩ := bindS hg1
      refine ⟨_, rfl, _, rfl, _, ⟨_, idx_nat hx5, _, idx_row hx5, rfl⟩, _, rfl, _, ⟨_, rfl, rfl⟩, _, rfl, _, ⟨_, rfl, rfl⟩, _, rfl, ?_⟩
      cases hg1
      refine ⟨_, rfl, ?_⟩
      refine ⟨Q0, ?_⟩
      cases hv3
      exact wt ⟨lr, Q8⟩ J2 rfl
     cases hg1
     refine ⟨_, rfl, ?_⟩
     refine ⟨Q0, ?_⟩
     cases hv3
     exact wt ⟨lr, Q8⟩ J2 rfl
    refine cn 34 (v3) rfl hv2 (fun hb hv2 => ?_) fun hb hv2 => ?_
    ·refine Ok.draw (m := 12) (MD := ⟨[]⟩) (CH := ⟨[]⟩) Tryz.tok Tryz.mixed (by kernel_rfl) ?_
     obtain ⟨x6, hx6, hv2⟩ := bindS hv2
     obtain ⟨x7, hx7, hv2⟩ := bindS hv2
     refine ⟨_, rfl, _, rfl, _, rfl, _, ⟨_, rfl, rfl⟩, _, rfl, _, rfl, _, ⟨_, idx_nat hx6, _, idx_row hx6, rfl⟩, _, rfl, _, ⟨_, rfl, rfl⟩, _, ⟨_, rfl, rfl⟩, _, ⟨_, idx_nat hx7, idx_ltm hx7, rfl⟩, _, rfl, Q0, _, idx_row hx7, rfl, _, rfl, _, set_row (f := c_api_Job) (x := (⟨x7.Id, x7.Ver, x7.From, x7.To, x7.Have, (min x2.Left x6.Left)⟩ : api_Job)), ?_⟩
     cases hv2
     exact wt Q5 J1 rfl
    refine sk ?_
    cases hv2
    exact wt Q5 J1 rfl
   refine rg ?_
   obtain ⟨hc1, hB1⟩ := chk_some hB1
   refine (Or.inl ⟨hc1, ?_⟩)
   exact ⟨_, sj hB1, wt Q5 J1 rfl⟩
  refine xt ?_
  have hB1 := out_ret hB1 hy1
  cases hB1
  exact wt Q1 J1 rfl
 refine sg ?_
 refine wT [(4, .o 10)] [(10, .own 47 6 (mB v1))] Q1 J1 rfl ?_
 refine rt ?_
 cases h
 exact (.inr ⟨_, rfl, rfl⟩)
theorem w_mend_Renew {p_l} {p_plan} {r} (h : mend_Renew p_l p_plan = some r) : Pure Tryz.prog 23 [(.s (mB p_l)), (.s (mB p_plan))] (.s (mB r)) := (wo_mend_Renew h).pure
theorem w_ref27_SameJobs {p_a} {p_b} {r} (h : ref27_SameJobs p_a p_b = some r) : Pure Tryz.prog 14 [(.s (mB p_a)), (.s (mB p_b))] (vb r) := by
 refine po Tryz.tok 26 Tryz.func14 (by kernel_rfl) rfl rfl rfl ?_
 unfold ref27_SameJobs at h
 refine wE [(0, .s (mB p_a)), (1, .s (mB p_b))] Q2 ?_
 refine sg ?_
 refine wE [(0, .s (mB p_a)), (1, .s (mB p_b))] Q2 ?_
 refine sq ?_
 refine sg ?_
 refine ⟨_, List.length_map _, fun _ => ⟨_, List.length_map _, fun _ => ?_⟩⟩
 refine wE [(0, .s (mB p_a)), (1, .s (mB p_b)), (10, vb ((p_a.length : Int) != (p_b.length : Int)))] Q3 ?_
 refine cn 10 ((p_a.length : Int) != (p_b.length : Int)) rfl h (fun hb h => ?_) fun hb h => ?_
 ·refine sg ?_
  refine wE [(4, vb false)] Q1 ?_
  refine rt ?_
  cases h
  exact Fz.v
 refine sk ?_
 refine Ok.seqj (fun v1 => ⟨Cat.tab [], []⟩) (fun v1 => ref27_SameJobs_J1 v1 = some r) ?_ ?_
 ·refine sg ?_
  refine wE [(0, .s (mB p_a)), (1, .s (mB p_b)), (5, vi (0))] Q3 ?_
  refine bl ?_
  refine Ok.loop (fun (s1 : Int) => ⟨Cat.tab [(0, .s (mB p_a)), (1, .s (mB p_b)), (5, vi s1)], []⟩) (ref27_SameJobs_B1 p_a p_b) (s0 := 0) h (wt Q3 Q0 rfl) ?_
  intro s1 y1 hB1 hy1
  unfold ref27_SameJobs_B1 at hB1
  refine sq ?_
  refine sg ?_
  refine ⟨_, List.length_map _, fun _ => ?_⟩
  refine wE [(0, .s (mB p_a)), (1, .s (mB p_b)), (5, vi s1), (14, vb (decide (s1 < (p_a.length : Int))))] Q4 ?_
  refine cn 14 (decide (s1 < (p_a.length : Int))) rfl hB1 (fun hb hB1 => ?_) fun hb hB1 => ?_
  ·refine sk ?_
   refine sq ?_
   refine bl ?_
   refine sq ?_
   refine Ok.draw (m := 9) (MD := ⟨[]⟩) (CH := ⟨[]⟩) Tryz.tok Tryz.mixed (by kernel_rfl) ?_
   obtain ⟨x1, hx1, hB1⟩ := bindS hB1
   obtain ⟨x2, hx2, hB1⟩ := bindS hB1
   refine ⟨_, rfl, _, rfl, _, ⟨_, idx_nat hx1, _, idx_row hx1, rfl⟩, _, ⟨_, rfl, rfl⟩, _, rfl, _, rfl, _, ⟨_, idx_nat hx2, _, idx_row hx2, rfl⟩, _, ⟨_, rfl, rfl⟩, _, ⟨[.one (.int .i64), .one (.int .i64), .one (.int .i64), .one (.int .i64), .one (.int .i64), .one (.int .i64)], by kernel_rfl, rfl⟩, Q0, ?_⟩
   refine wE [(0, .s (mB p_a)), (1, .s (mB p_b)), (5, vi s1), (25, vb (!(x1.Id == x2.Id && (x1.Ver == x2.Ver && (x1.From == x2.From && (x1.To == x2.To && (x1.Have == x2.Have && (x1.Left == x2.Left && true))))))))] Q4 ?_
   refine cn 25 (!(x1.Id == x2.Id && (x1.Ver == x2.Ver && (x1.From == x2.From && (x1.To == x2.To && (x1.Have == x2.Have && (x1.Left == x2.Left && true))))))) rfl hB1 (fun hb hB1 => ?_) fun hb hB1 => ?_
   ·refine sg ?_
    refine wE [(4, vb false)] Q1 ?_
    refine rt ?_
    have hB1 := out_ret hB1 hy1
    cases hB1
    exact Fz.v
   refine sk ?_
   refine rg ?_
   obtain ⟨hc1, hB1⟩ := chk_some hB1
   refine (Or.inl ⟨hc1, ?_⟩)
   exact ⟨_, sj hB1, wt Q3 Q0 rfl⟩
  refine xt ?_
  have hB1 := out_ret hB1 hy1
  exact ⟨_, hB1, wt Q0 Q0 rfl⟩
 intro v1 h
 unfold ref27_SameJobs_J1 at h
 refine sg ?_
 refine wE [(4, vb true)] Q1 ?_
 refine rt ?_
 cases h
 exact Fz.v
theorem w_mend_Steps {p_l} {p_budget} {r} (h : mend_Steps p_l p_budget = some r) : Pure Tryz.prog 16 [(.s (mB p_l)), (vi p_budget)] (vi r) := by
 refine po Tryz.tok 30 Tryz.func16 (by kernel_rfl) rfl rfl rfl ?_
 unfold mend_Steps at h
 refine wE [(0, .s (mB p_l)), (1, vi p_budget)] Q2 ?_
 refine sg ?_
 refine wE [(0, .s (mB p_l)), (1, vi p_budget)] Q2 ?_
 refine sg ?_
 refine wE [(0, .s (mB p_l)), (1, vi p_budget), (5, vi (0))] Q3 ?_
 obtain ⟨v1, hv1, h⟩ := bindS h
 refine Ok.seqw ⟨Cat.tab [(1, vi p_budget), (5, vi v1)], []⟩ ?_ ?_
 ·refine sg ?_
  refine ⟨_, List.length_map _, fun _ => ?_⟩
  refine wE [(1, vi p_budget), (5, vi (0)), (8, .s (mB p_l)), (9, vi (p_l.length : Int)), (10, vi (0))] Q5 ?_
  refine bl ?_
  refine Ok.loop (fun (s1 : Int × Int) => ⟨Cat.tab [(1, vi p_budget), (5, vi s1.1), (8, .s (mB p_l)), (9, vi (p_l.length : Int)), (10, vi s1.2)], []⟩) (mend_Steps_B1 p_l) (s0 := (0, 0)) hv1 (wt Q5 Q0 rfl) ?_
  intro s1 y1 hB1 hy1
  unfold mend_Steps_B1 at hB1
  refine sg ?_
  refine wE [(1, vi p_budget), (5, vi s1.1), (8, .s (mB p_l)), (9, vi (p_l.length : Int)), (10, vi s1.2), (11, vb (decide (s1.2 < (p_l.length : Int))))] Q6 ?_
  refine sq ?_
  refine cn 11 (decide (s1.2 < (p_l.length : Int))) rfl hB1 (fun hb hB1 => ?_) fun hb hB1 => ?_
  ·refine sk ?_
   refine sq ?_
   refine bl ?_
   refine sg ?_
   obtain ⟨x1, hx1, hB1⟩ := bindS hB1
   refine ⟨_, idx_nat hx1, _, idx_row hx1, _, rfl, _, rfl, ?_⟩
   refine wT [(1, vi p_budget), (5, vi s1.1), (7, .b 7 0), (8, .s (mB p_l)), (9, vi (p_l.length : Int)), (10, vi s1.2)] [(7, .box [vi x1.Id, vi x1.Ver, vi x1.From, vi x1.To, vi x1.Have, vi x1.Left])] Q6 J1 rfl ?_
   refine rg ?_
   obtain ⟨hc1, hB1⟩ := chk_some hB1
   refine ⟨_, rfl, (Or.inl ⟨hc1, ?_⟩)⟩
   refine wE [(1, vi p_budget), (5, vi (s1.1 + x1.Left)), (8, .s (mB p_l)), (9, vi (p_l.length : Int)), (10, vi s1.2)] Q5 ?_
   refine rg ?_
   obtain ⟨hc2, hB1⟩ := chk_some hB1
   refine (Or.inl ⟨hc2, ?_⟩)
   exact ⟨_, sj hB1, wt Q5 Q0 rfl⟩
  refine xt ?_
  have hB1 := out_ret hB1 hy1
  cases hB1
  exact wt Q2 Q0 rfl
 refine sq ?_
 refine bl ?_
 refine sg ?_
 refine wE [(1, vi p_budget), (5, vi v1), (19, vb (v1 == 0))] Q3 ?_
 refine cn 19 (v1 == 0) rfl h (fun hb h => ?_) fun hb h => ?_
 ·refine sg ?_
  refine wE [(4, vi (0))] Q1 ?_
  refine rt ?_
  cases h
  exact Fz.v
 refine sg ?_
 refine wE [(1, vi p_budget), (5, vi v1), (22, vb (decide (p_budget < 1)))] Q3 ?_
 refine cn 22 (decide (p_budget < 1)) rfl h (fun hb h => ?_) fun hb h => ?_
 ·refine sg ?_
  refine wE [(4, vi (-1))] Q1 ?_
  refine rt ?_
  cases h
  exact Fz.v
 refine sk ?_
 refine sg ?_
 obtain ⟨hc3, h⟩ := chk_some h
 obtain ⟨hc4, h⟩ := chk_some h
 obtain ⟨hc5, h⟩ := chk_some h
 refine (Or.inl ⟨hc3, hc4, _, rfl, (Or.inl ⟨hc5, ?_⟩)⟩)
 refine wE [(4, vi (1 + (quoK .i64 (v1 - 1) p_budget)))] Q1 ?_
 refine rt ?_
 cases h
 exact Fz.v
theorem w_mend_Right {p_l} {r} (h : mend_Right p_l = some r) : Pure Tryz.prog 24 [(.s (mB p_l))] (vb r) := by
 refine po Tryz.tok 39 Tryz.func24 (by kernel_rfl) rfl rfl rfl ?_
 unfold mend_Right at h
 refine wE [(0, .s (mB p_l))] Q1 ?_
 refine sg ?_
 refine wE [(0, .s (mB p_l))] Q1 ?_
 refine Ok.seqj (fun v1 => ⟨Cat.tab [], []⟩) (fun v1 => mend_Right_J1 v1 = some r) ?_ ?_
 ·refine sg ?_
  refine ⟨_, List.length_map _, fun _ => ?_⟩
  refine wE [(0, .s (mB p_l)), (5, .s (mB p_l)), (6, vi (p_l.length : Int)), (7, vi (0))] Q4 ?_
  refine bl ?_
  refine Ok.loop (fun (s1 : Int) => ⟨Cat.tab [(0, .s (mB p_l)), (5, .s (mB p_l)), (6, vi (p_l.length : Int)), (7, vi s1)], []⟩) (mend_Right_B1 p_l) (s0 := 0) h (wt Q4 Q0 rfl) ?_
  intro s1 y1 hB1 hy1
  unfold mend_Right_B1 at hB1
  refine sg ?_
  refine wE [(0, .s (mB p_l)), (5, .s (mB p_l)), (6, vi (p_l.length : Int)), (7, vi s1), (8, vb (decide (s1 < (p_l.length : Int))))] Q5 ?_
  refine sq ?_
  refine cn 8 (decide (s1 < (p_l.length : Int))) rfl hB1 (fun hb hB1 => ?_) fun hb hB1 => ?_
  ·refine sk ?_
   refine sq ?_
   refine bl ?_
   refine sg ?_
   obtain ⟨x1, hx1, hB1⟩ := bindS hB1
   refine ⟨_, idx_nat hx1, _, idx_row hx1, _, rfl, _, rfl, ?_⟩
   refine wT [(0, .s (mB p_l)), (3, vi s1), (4, .b 4 0), (5, .s (mB p_l)), (6, vi (p_l.length : Int)), (7, vi s1)] [(4, .box [vi x1.Id, vi x1.Ver, vi x1.From, vi x1.To, vi x1.Have, vi x1.Left])] Q6 J1 rfl ?_
   obtain ⟨v2, hv2, hB1⟩ := bindS hB1
   refine Ok.seqw ⟨Cat.tab [(0, .s (mB p_l)), (5, .s (mB p_l)), (6, vi (p_l.length : Int)), (7, vi s1), (37, vb v2)], []⟩ ?_ ?_
   ·refine Ok.draw (m := 26) (MD := ⟨[]⟩) (CH := ⟨[]⟩) Tryz.tok Tryz.mixed (by kernel_rfl) ?_
    obtain ⟨x2, hx2, hv2⟩ := bindS hv2
    refine ⟨_, ⟨_, rfl, rfl⟩, _, ⟨_, .of_pure (w_mend_may hx2) (LeL.refl _), rfl⟩, _, rfl, _, rfl, ?_⟩
    obtain ⟨c1, hg1, hv2⟩ := bindS hv2
    refine Br.itf hg1 (fun hb hg1 => ?_) fun hb hg1 => ?_
    ·cases hg1
     refine ⟨_, rfl, ?_⟩
     refine ⟨_, rfl, ?_⟩
     obtain ⟨c3, hg2, hv2⟩ := bindS hv2
     replace hg2 := iteT hg2
     cases hg2
     refine ⟨_, rfl, ?_⟩
     refine ⟨Q0, ?_⟩
     cases hv2
     exact wt Q5 Q0 rfl
    obtain ⟨hc1, hg1⟩ := chk_some hg1
    obtain ⟨x3, hx3, hg1⟩ := bindS hg1
    obtain ⟨x4, hx4, hg1⟩ := bindS hg1
    refine ⟨_, rfl, _, rfl, _, ⟨_, sl_nat hc1.1, Nat.zero_le _, sl_len hc1, rowsK (f := c_api_Job) (K := 6) (fun _ => rfl) p_l, _, sl_take _ _ _, rfl⟩, _, ⟨_, rfl, rfl⟩, _, ⟨_, .of_pure (w_mend_of hx3) (LeL.refl _), rfl⟩, _, rfl, _, ⟨_, .of_pure (w_slices_ContainsFunc_api_Job_api_Job__mend_spot_is hx4) (LeL.refl _), rfl⟩, ?_⟩
    cases hg1
    refine ⟨_, rfl, ?_⟩
    refine ⟨_, rfl, ?_⟩
    obtain ⟨c3, hg3, hv2⟩ := bindS hv2
    refine Br.itf hg3 (fun hb hg3 => ?_) fun hb hg3 => ?_
    ·cases hg3
     refine ⟨_, rfl, ?_⟩
     refine ⟨Q0, ?_⟩
     cases hv2
     exact wt Q5 Q0 rfl
    refine ⟨_, rfl, _, rfl, _, rfl, ?_⟩
    obtain ⟨c2, hg4, hg3⟩ := bindS hg3
    refine Br.ite hg4 (fun hb hg4 => ?_) fun hb hg4 => ?_
    ·obtain ⟨hc2, hg4⟩ := chk_some hg4
     obtain ⟨x5, hx5, hg4⟩ := bindS hg4
     obtain ⟨x6, hx6, hg4⟩ := bindS hg4
     refine ⟨_, rfl, _, rfl, _, Or.inl ⟨hc2, rfl⟩, _, ⟨_, idx_nat hx5, _, idx_row hx5, rfl⟩, _, ⟨_, rfl, rfl⟩, _, ⟨_, rfl, rfl⟩, _, ⟨_, .of_pure (w_mend_against hx6) (LeL.refl _), rfl⟩, _, rfl, ?_⟩
     cases hg4
     refine ⟨_, rfl, ?_⟩
     cases hg3
     refine ⟨_, rfl, ?_⟩
     refine ⟨Q0, ?_⟩
     cases hv2
     exact wt Q5 Q0 rfl
    cases hg4
    refine ⟨_, rfl, ?_⟩
    cases hg3
    refine ⟨_, rfl, ?_⟩
    refine ⟨Q0, ?_⟩
    cases hv2
    exact wt Q5 Q0 rfl
   refine cn 37 (v2) rfl hB1 (fun hb hB1 => ?_) fun hb hB1 => ?_
   ·refine sg ?_
    refine wE [(2, vb false)] Q1 ?_
    refine rt ?_
    have hB1 := out_ret hB1 hy1
    cases hB1
    exact Fz.v
   refine sk ?_
   refine rg ?_
   obtain ⟨hc3, hB1⟩ := chk_some hB1
   refine (Or.inl ⟨hc3, ?_⟩)
   exact ⟨_, sj hB1, wt Q4 Q0 rfl⟩
  refine xt ?_
  have hB1 := out_ret hB1 hy1
  exact ⟨_, hB1, wt Q0 Q0 rfl⟩
 intro v1 h
 unfold mend_Right_J1 at h
 refine sg ?_
 refine wE [(2, vb true)] Q1 ?_
 refine rt ?_
 cases h
 exact Fz.v
theorem w_law28_head {r} (h : law28_head = some r) : Pure Tryz.prog 5 [] (vb r) := by
 refine po Tryz.tok 69 Tryz.func5 (by kernel_rfl) rfl rfl rfl ?_
 unfold law28_head at h
 refine wE [] Q0 ?_
 refine sg ?_
 refine wE [] Q0 ?_
 refine sg ?_
 obtain ⟨x1, hx1, h⟩ := bindS h
 refine CallOk.call (w_law28_job hx1) (LeL.refl _) ?_
 obtain ⟨x2, hx2, h⟩ := bindS h
 refine CallOk.call (w_law28_job hx2) (LeL.refl _) ?_
 obtain ⟨x3, hx3, h⟩ := bindS h
 refine CallOk.call (w_law28_job hx3) (LeL.refl _) ?_
 obtain ⟨x4, hx4, h⟩ := bindS h
 refine CallOk.call (w_law28_job hx4) (LeL.refl _) ?_
 obtain ⟨x5, hx5, h⟩ := bindS h
 refine Or.inl ?_
 refine CallOk.call (w_mend_Order hx5) (LeL.refl _) ?_
 refine wE [(1, .s (mB x5))] Q1 ?_
 refine sg ?_
 obtain ⟨x6, hx6, h⟩ := bindS h
 refine CallOk.call (w_mend_Step hx6) (LeL.refl _) ?_
 refine wE [(1, .s (mB x5)), (2, .s (mB x6.1)), (3, .s (mB x6.2))] Q3 ?_
 refine sg ?_
 obtain ⟨x7, hx7, h⟩ := bindS h
 refine CallOk.call (w_law28_job hx7) (LeL.refl _) ?_
 obtain ⟨x8, hx8, h⟩ := bindS h
 refine Or.inl ?_
 refine CallOk.call (w_mend_Renew hx8) (LeL.refl _) ?_
 refine wE [(1, .s (mB x5)), (2, .s (mB x6.1)), (3, .s (mB x6.2)), (4, .s (mB x8))] Q4 ?_
 obtain ⟨v1, hv1, h⟩ := bindS h
 refine Ok.seqw ⟨Cat.tab [(0, vb v1)], []⟩ ?_ ?_
 ·refine rg ?_
  obtain ⟨x9, hx9, hv1⟩ := bindS hv1
  refine CallOk.norm (L := [(1, .s (mB x5)), (2, .s (mB x6.1)), (3, .s (mB x6.2)), (4, .s (mB x8)), (20, .s (mB x5))]) (H' := []) (LeL.refl _) Q5 Q0 rfl (CallOk.call (w_law28_job hx9) (LeL.refl _) ?_)
  obtain ⟨x10, hx10, hv1⟩ := bindS hv1
  refine CallOk.norm (L := [(1, .s (mB x5)), (2, .s (mB x6.1)), (3, .s (mB x6.2)), (4, .s (mB x8)), (20, .s (mB x5)), (21, .a [vi x9.Id, vi x9.Ver, vi x9.From, vi x9.To, vi x9.Have, vi x9.Left])]) (H' := []) (LeL.refl _) Q6 Q0 rfl (CallOk.call (w_law28_job hx10) (LeL.refl _) ?_)
  obtain ⟨x11, hx11, hv1⟩ := bindS hv1
  refine Or.inl ?_
  refine CallOk.norm (L := [(1, .s (mB x5)), (2, .s (mB x6.1)), (3, .s (mB x6.2)), (4, .s (mB x8)), (20, .s (mB x5)), (23, .s (mB ([x9, x10])))]) (H' := []) (LeL.refl _) Q6 Q0 rfl (CallOk.call (w_ref27_SameJobs hx11) (LeL.refl _) ?_)
  obtain ⟨c1, hg1, hv1⟩ := bindS hv1
  refine Br.ite hg1 (fun hb hg1 => ?_) fun hb hg1 => ?_
  ·obtain ⟨x12, hx12, hg1⟩ := bindS hg1
   refine CallOk.norm (L := [(1, .s (mB x5)), (3, .s (mB x6.2)), (4, .s (mB x8)), (25, .v (.bool true)), (26, .s (mB x6.1))]) (H' := []) (LeL.refl _) Q5 Q0 rfl (CallOk.call (w_law28_job hx12) (LeL.refl _) ?_)
   obtain ⟨x13, hx13, hg1⟩ := bindS hg1
   refine Or.inl ?_
   refine CallOk.norm (L := [(1, .s (mB x5)), (3, .s (mB x6.2)), (4, .s (mB x8)), (25, .v (.bool true)), (26, .s (mB x6.1)), (28, .s (mB ([x12])))]) (H' := []) (LeL.refl _) Q6 Q0 rfl (CallOk.call (w_ref27_SameJobs hx13) (LeL.refl _) ?_)
   cases hg1
   obtain ⟨c2, hg2, hv1⟩ := bindS hv1
   refine Br.ite hg2 (fun hb hg2 => ?_) fun hb hg2 => ?_
   ·obtain ⟨x14, hx14, hg2⟩ := bindS hg2
    refine CallOk.norm (L := [(1, .s (mB x5)), (4, .s (mB x8)), (31, .v (.bool true)), (32, .s (mB x6.2))]) (H' := []) (LeL.refl _) Q4 Q0 rfl (CallOk.call (w_law28_job hx14) (LeL.refl _) ?_)
    obtain ⟨x15, hx15, hg2⟩ := bindS hg2
    refine Or.inl ?_
    refine CallOk.norm (L := [(1, .s (mB x5)), (4, .s (mB x8)), (31, .v (.bool true)), (32, .s (mB x6.2)), (34, .s (mB ([x14])))]) (H' := []) (LeL.refl _) Q5 Q0 rfl (CallOk.call (w_ref27_SameJobs hx15) (LeL.refl _) ?_)
    cases hg2
    obtain ⟨c3, hg3, hv1⟩ := bindS hv1
    refine Br.ite hg3 (fun hb hg3 => ?_) fun hb hg3 => ?_
    ·obtain ⟨x16, hx16, hg3⟩ := bindS hg3
     refine CallOk.norm (L := [(1, .s (mB x5)), (4, .s (mB x8)), (37, .v (.bool true)), (38, .s (mB x5))]) (H' := []) (LeL.refl _) Q4 Q0 rfl (CallOk.call (w_mend_Steps hx16) (LeL.refl _) ?_)
     cases hg3
     obtain ⟨c4, hg4, hv1⟩ := bindS hv1
     refine Br.ite hg4 (fun hb hg4 => ?_) fun hb hg4 => ?_
     ·obtain ⟨x17, hx17, hg4⟩ := bindS hg4
      refine CallOk.norm (L := [(1, .s (mB x5)), (4, .s (mB x8)), (42, .v (.bool true)), (43, .s (mB x5))]) (H' := []) (LeL.refl _) Q4 Q0 rfl (CallOk.call (w_mend_Steps hx17) (LeL.refl _) ?_)
      cases hg4
      obtain ⟨c5, hg5, hv1⟩ := bindS hv1
      refine Br.ite hg5 (fun hb hg5 => ?_) fun hb hg5 => ?_
      ·obtain ⟨x18, hx18, hg5⟩ := bindS hg5
       refine CallOk.norm (L := [(1, .s (mB x5)), (4, .s (mB x8)), (47, .v (.bool true))]) (H' := []) (LeL.refl _) Q3 Q0 rfl (CallOk.call (w_mend_Steps hx18) (.cons (Le.nil) (.cons (lr) (.nil))) ?_)
       cases hg5
       obtain ⟨c6, hg6, hv1⟩ := bindS hv1
       refine Br.ite hg6 (fun hb hg6 => ?_) fun hb hg6 => ?_
       ·obtain ⟨x19, hx19, hg6⟩ := bindS hg6
        refine CallOk.norm (L := [(1, .s (mB x5)), (51, .v (.bool true)), (52, .s (mB x8))]) (H' := []) (LeL.refl _) Q3 Q0 rfl (CallOk.call (w_law28_job hx19) (LeL.refl _) ?_)
        obtain ⟨x20, hx20, hg6⟩ := bindS hg6
        refine CallOk.norm (L := [(1, .s (mB x5)), (51, .v (.bool true)), (52, .s (mB x8)), (53, .a [vi x19.Id, vi x19.Ver, vi x19.From, vi x19.To, vi x19.Have, vi x19.Left])]) (H' := []) (LeL.refl _) Q4 Q0 rfl (CallOk.call (w_law28_job hx20) (LeL.refl _) ?_)
        obtain ⟨x21, hx21, hg6⟩ := bindS hg6
        refine Or.inl ?_
        refine CallOk.norm (L := [(1, .s (mB x5)), (51, .v (.bool true)), (52, .s (mB x8)), (55, .s (mB ([x19, x20])))]) (H' := []) (LeL.refl _) Q4 Q0 rfl (CallOk.call (w_ref27_SameJobs hx21) (LeL.refl _) ?_)
        cases hg6
        obtain ⟨c7, hg7, hv1⟩ := bindS hv1
        refine Br.ite hg7 (fun hb hg7 => ?_) fun hb hg7 => ?_
        ·obtain ⟨x22, hx22, hg7⟩ := bindS hg7
         refine CallOk.norm (L := [(58, .v (.bool true)), (59, .s (mB x5))]) (H' := []) (LeL.refl _) Q2 Q0 rfl (CallOk.call (w_mend_Right hx22) (LeL.refl _) ?_)
         cases hg7
         obtain ⟨c8, hg8, hv1⟩ := bindS hv1
         refine Br.ite hg8 (fun hb hg8 => ?_) fun hb hg8 => ?_
         ·obtain ⟨x23, hx23, hg8⟩ := bindS hg8
          refine CallOk.norm (L := [(62, .v (.bool true))]) (H' := []) (LeL.refl _) Q1 Q0 rfl (CallOk.call (w_law28_job hx23) (LeL.refl _) ?_)
          obtain ⟨x24, hx24, hg8⟩ := bindS hg8
          refine CallOk.norm (L := [(62, .v (.bool true)), (63, .a [vi x23.Id, vi x23.Ver, vi x23.From, vi x23.To, vi x23.Have, vi x23.Left])]) (H' := []) (LeL.refl _) Q2 Q0 rfl (CallOk.call (w_law28_job hx24) (LeL.refl _) ?_)
          obtain ⟨x25, hx25, hg8⟩ := bindS hg8
          refine Or.inl ?_
          refine CallOk.norm (L := [(62, .v (.bool true)), (65, .s (mB ([x23, x24])))]) (H' := []) (LeL.refl _) Q2 Q0 rfl (CallOk.call (w_mend_Right hx25) (LeL.refl _) ?_)
          cases hg8
          cases hv1
          exact wt Q1 Q0 rfl
         cases hg8
         cases hv1
         exact wt Q1 Q0 rfl
        cases hg7
        obtain ⟨c8, hg9, hv1⟩ := bindS hv1
        replace hg9 := iteF hg9
        cases hg9
        cases hv1
        exact wt Q1 Q0 rfl
       cases hg6
       obtain ⟨c7, hg10, hv1⟩ := bindS hv1
       replace hg10 := iteF hg10
       cases hg10
       obtain ⟨c8, hg11, hv1⟩ := bindS hv1
       replace hg11 := iteF hg11
       cases hg11
       cases hv1
       exact wt Q1 Q0 rfl
      cases hg5
      obtain ⟨c6, hg12, hv1⟩ := bindS hv1
      replace hg12 := iteF hg12
      cases hg12
      obtain ⟨c7, hg13, hv1⟩ := bindS hv1
      replace hg13 := iteF hg13
      cases hg13
      obtain ⟨c8, hg14, hv1⟩ := bindS hv1
      replace hg14 := iteF hg14
      cases hg14
      cases hv1
      exact wt Q1 Q0 rfl
     cases hg4
     obtain ⟨c5, hg15, hv1⟩ := bindS hv1
     replace hg15 := iteF hg15
     cases hg15
     obtain ⟨c6, hg16, hv1⟩ := bindS hv1
     replace hg16 := iteF hg16
     cases hg16
     obtain ⟨c7, hg17, hv1⟩ := bindS hv1
     replace hg17 := iteF hg17
     cases hg17
     obtain ⟨c8, hg18, hv1⟩ := bindS hv1
     replace hg18 := iteF hg18
     cases hg18
     cases hv1
     exact wt Q1 Q0 rfl
    cases hg3
    obtain ⟨c4, hg19, hv1⟩ := bindS hv1
    replace hg19 := iteF hg19
    cases hg19
    obtain ⟨c5, hg20, hv1⟩ := bindS hv1
    replace hg20 := iteF hg20
    cases hg20
    obtain ⟨c6, hg21, hv1⟩ := bindS hv1
    replace hg21 := iteF hg21
    cases hg21
    obtain ⟨c7, hg22, hv1⟩ := bindS hv1
    replace hg22 := iteF hg22
    cases hg22
    obtain ⟨c8, hg23, hv1⟩ := bindS hv1
    replace hg23 := iteF hg23
    cases hg23
    cases hv1
    exact wt Q1 Q0 rfl
   cases hg2
   obtain ⟨c3, hg24, hv1⟩ := bindS hv1
   replace hg24 := iteF hg24
   cases hg24
   obtain ⟨c4, hg25, hv1⟩ := bindS hv1
   replace hg25 := iteF hg25
   cases hg25
   obtain ⟨c5, hg26, hv1⟩ := bindS hv1
   replace hg26 := iteF hg26
   cases hg26
   obtain ⟨c6, hg27, hv1⟩ := bindS hv1
   replace hg27 := iteF hg27
   cases hg27
   obtain ⟨c7, hg28, hv1⟩ := bindS hv1
   replace hg28 := iteF hg28
   cases hg28
   obtain ⟨c8, hg29, hv1⟩ := bindS hv1
   replace hg29 := iteF hg29
   cases hg29
   cases hv1
   exact wt Q1 Q0 rfl
  cases hg1
  obtain ⟨c2, hg30, hv1⟩ := bindS hv1
  replace hg30 := iteF hg30
  cases hg30
  obtain ⟨c3, hg31, hv1⟩ := bindS hv1
  replace hg31 := iteF hg31
  cases hg31
  obtain ⟨c4, hg32, hv1⟩ := bindS hv1
  replace hg32 := iteF hg32
  cases hg32
  obtain ⟨c5, hg33, hv1⟩ := bindS hv1
  replace hg33 := iteF hg33
  cases hg33
  obtain ⟨c6, hg34, hv1⟩ := bindS hv1
  replace hg34 := iteF hg34
  cases hg34
  obtain ⟨c7, hg35, hv1⟩ := bindS hv1
  replace hg35 := iteF hg35
  cases hg35
  obtain ⟨c8, hg36, hv1⟩ := bindS hv1
  replace hg36 := iteF hg36
  cases hg36
  cases hv1
  exact wt Q1 Q0 rfl
 refine rt ?_
 cases h
 exact Fz.v
theorem w_ref04_Page {p_p} {r} (h : ref04_Page p_p = some r) : Pure Tryz.prog 83 [(.a [(vi p_p.At), (.s (mI p_p.Data))])] (vb r) := by
 refine po Tryz.tok 17 Tryz.func83 (by kernel_rfl) rfl rfl rfl ?_
 unfold ref04_Page at h
 refine wE [(0, .a [vi p_p.At, .s (mI p_p.Data)])] Q1 ?_
 refine sg ?_
 refine wT [(1, .b 1 0)] [(1, .box [vi p_p.At, .s (mI p_p.Data)])] Q1 J1 rfl ?_
 obtain ⟨v1, hv1, h⟩ := bindS h
 refine Ok.seqw ⟨Cat.tab [(2, vb v1)], []⟩ ?_ ?_
 ·refine rg ?_
  refine ⟨_, rfl, ?_⟩
  obtain ⟨c1, hg1, hv1⟩ := bindS hv1
  refine Br.ite hg1 (fun hb hg1 => ?_) fun hb hg1 => ?_
  ·refine ⟨_, rfl, ?_⟩
   cases hg1
   obtain ⟨c2, hg2, hv1⟩ := bindS hv1
   refine Br.ite hg2 (fun hb hg2 => ?_) fun hb hg2 => ?_
   ·refine ⟨_, rfl, _, List.length_map _, fun _ => ?_⟩
    cases hg2
    cases hv1
    exact wt Q1 Q0 rfl
   cases hg2
   cases hv1
   exact wt Q1 Q0 rfl
  cases hg1
  obtain ⟨c2, hg3, hv1⟩ := bindS hv1
  replace hg3 := iteF hg3
  cases hg3
  cases hv1
  exact wt Q1 Q0 rfl
 refine rt ?_
 cases h
 exact Fz.v
theorem w_ref04_Right {p_d} {r} (h : ref04_Right p_d = some r) : Pure Tryz.prog 52 [(.a [(.s (mA p_d.Synced)), (.s (mA p_d.Loose)), (vb p_d.Down)])] (vb r) := by
 refine po Tryz.tok 66 Tryz.func52 (by kernel_rfl) rfl rfl rfl ?_
 unfold ref04_Right at h
 refine wE [(0, .a [.s (mA p_d.Synced), .s (mA p_d.Loose), vb p_d.Down])] Q1 ?_
 refine sg ?_
 refine wT [(1, .b 1 0)] [(1, .box [.s (mA p_d.Synced), .s (mA p_d.Loose), vb p_d.Down])] Q1 J1 rfl ?_
 refine Ok.seqj (fun v1 => ⟨Cat.tab [(1, .b 1 0)], [(1, .box [.s (mA p_d.Synced), .s (mA p_d.Loose), vb p_d.Down])]⟩) (fun v1 => ref04_Right_J1 p_d v1 = some r) ?_ ?_
 ·refine sg ?_
  refine wT [(1, .b 1 0), (3, vi (0))] [(1, .box [.s (mA p_d.Synced), .s (mA p_d.Loose), vb p_d.Down])] Q2 J1 rfl ?_
  refine bl ?_
  refine Ok.loop (fun (s1 : Int) => ⟨Cat.tab [(1, .b 1 0), (3, vi s1)], [(1, .box [.s (mA p_d.Synced), .s (mA p_d.Loose), vb p_d.Down])]⟩) (ref04_Right_B1 p_d) (s0 := 0) h (wt Q2 ⟨⟨_, rfl, .refl _⟩, Q0⟩ rfl) ?_
  intro s1 y1 hB1 hy1
  unfold ref04_Right_B1 at hB1
  refine sq ?_
  refine sg ?_
  refine ⟨_, rfl, _, List.length_map _, fun _ => ?_⟩
  refine wT [(1, .b 1 0), (3, vi s1), (11, vb (decide (s1 < (p_d.Synced.length : Int))))] [(1, .box [.s (mA p_d.Synced), .s (mA p_d.Loose), vb p_d.Down])] Q3 J1 rfl ?_
  refine cn 11 (decide (s1 < (p_d.Synced.length : Int))) rfl hB1 (fun hb hB1 => ?_) fun hb hB1 => ?_
  ·refine sk ?_
   refine sq ?_
   refine bl ?_
   refine sg ?_
   obtain ⟨x1, hx1, hB1⟩ := bindS hB1
   obtain ⟨x2, hx2, hB1⟩ := bindS hB1
   refine ⟨_, rfl, _, idx_nat hx1, _, idx_row hx1, _, rfl, ?_⟩
   refine CallOk.call (w_ref04_Page hx2) (LeL.refl _) ?_
   refine wT [(1, .b 1 0), (3, vi s1), (4, vb x2)] [(1, .box [.s (mA p_d.Synced), .s (mA p_d.Loose), vb p_d.Down])] Q3 J1 rfl ?_
   obtain ⟨v2, hv2, hB1⟩ := bindS hB1
   refine Ok.seqw ⟨Cat.tab [(1, .b 1 0), (3, vi s1), (41, vb v2)], [(1, .box [.s (mA p_d.Synced), .s (mA p_d.Loose), vb p_d.Down])]⟩ ?_ ?_
   ·refine Ok.draw (m := 22) (MD := ⟨[]⟩) (CH := ⟨[]⟩) Tryz.tok Tryz.mixed (by kernel_rfl) ?_
    refine ⟨_, rfl, _, rfl, _, rfl, ?_⟩
    obtain ⟨c2, hg1, hv2⟩ := bindS hv2
    refine Br.itf hg1 (fun hb hg1 => ?_) fun hb hg1 => ?_
    ·cases hg1
     refine ⟨_, rfl, ?_⟩
     refine ⟨Q0, ?_⟩
     cases hv2
     exact wt Q3 J1 rfl
    refine ⟨_, rfl, _, rfl, _, rfl, ?_⟩
    obtain ⟨c1, hg2, hg1⟩ := bindS hg1
    refine Br.ite hg2 (fun hb hg2 => ?_) fun hb hg2 => ?_
    ·obtain ⟨x3, hx3, hg2⟩ := bindS hg2
     obtain ⟨hc1, hg2⟩ := chk_some hg2
     obtain ⟨x4, hx4, hg2⟩ := bindS hg2
     refine ⟨_, rfl, _, ⟨_, rfl, rfl⟩, _, rfl, _, ⟨_, idx_nat hx3, _, idx_row hx3, rfl⟩, _, rfl, _, ⟨_, rfl, rfl⟩, _, rfl, _, ⟨_, rfl, rfl⟩, _, rfl, _, Or.inl ⟨hc1, rfl⟩, _, ⟨_, idx_nat hx4, _, idx_row hx4, rfl⟩, _, rfl, _, ⟨_, rfl, rfl⟩, _, rfl, ?_⟩
     cases hg2
     refine ⟨_, rfl, ?_⟩
     cases hg1
     refine ⟨_, rfl, ?_⟩
     refine ⟨Q0, ?_⟩
     cases hv2
     exact wt Q3 J1 rfl
    cases hg2
    refine ⟨_, rfl, ?_⟩
    cases hg1
    refine ⟨_, rfl, ?_⟩
    refine ⟨Q0, ?_⟩
    cases hv2
    exact wt Q3 J1 rfl
   refine cn 41 (v2) rfl hB1 (fun hb hB1 => ?_) fun hb hB1 => ?_
   ·refine sg ?_
    refine wE [(2, vb false)] Q1 ?_
    refine rt ?_
    have hB1 := out_ret hB1 hy1
    cases hB1
    exact Fz.v
   refine sk ?_
   refine rg ?_
   obtain ⟨hc2, hB1⟩ := chk_some hB1
   refine (Or.inl ⟨hc2, ?_⟩)
   exact ⟨_, sj hB1, wt Q2 J1 rfl⟩
  refine xt ?_
  have hB1 := out_ret hB1 hy1
  exact ⟨_, hB1, wt Q1 ⟨⟨_, rfl, .refl _⟩, Q0⟩ rfl⟩
 intro v1 h
 unfold ref04_Right_J1 at h
 refine Ok.seqj (fun v3 => ⟨Cat.tab [(1, .b 1 0)], [(1, .box [.s (mA p_d.Synced), .s (mA p_d.Loose), vb p_d.Down])]⟩) (fun v3 => ref04_Right_J2 p_d v3 = some r) ?_ ?_
 ·refine sg ?_
  refine wT [(1, .b 1 0), (5, vi (0))] [(1, .box [.s (mA p_d.Synced), .s (mA p_d.Loose), vb p_d.Down])] Q2 J1 rfl ?_
  refine bl ?_
  refine Ok.loop (fun (s2 : Int) => ⟨Cat.tab [(1, .b 1 0), (5, vi s2)], [(1, .box [.s (mA p_d.Synced), .s (mA p_d.Loose), vb p_d.Down])]⟩) (ref04_Right_B2 p_d) (s0 := 0) h (wt Q2 ⟨⟨_, rfl, .refl _⟩, Q0⟩ rfl) ?_
  intro s2 y2 hB2 hy2
  unfold ref04_Right_B2 at hB2
  refine sq ?_
  refine sg ?_
  refine ⟨_, rfl, _, List.length_map _, fun _ => ?_⟩
  refine wT [(1, .b 1 0), (5, vi s2), (46, vb (decide (s2 < (p_d.Loose.length : Int))))] [(1, .box [.s (mA p_d.Synced), .s (mA p_d.Loose), vb p_d.Down])] Q3 J1 rfl ?_
  refine cn 46 (decide (s2 < (p_d.Loose.length : Int))) rfl hB2 (fun hb hB2 => ?_) fun hb hB2 => ?_
  ·refine sk ?_
   refine sq ?_
   refine bl ?_
   refine sg ?_
   obtain ⟨x5, hx5, hB2⟩ := bindS hB2
   obtain ⟨x6, hx6, hB2⟩ := bindS hB2
   refine ⟨_, rfl, _, idx_nat hx5, _, idx_row hx5, _, rfl, ?_⟩
   refine CallOk.call (w_ref04_Page hx6) (LeL.refl _) ?_
   refine wT [(1, .b 1 0), (5, vi s2), (6, vb x6)] [(1, .box [.s (mA p_d.Synced), .s (mA p_d.Loose), vb p_d.Down])] Q3 J1 rfl ?_
   refine sg ?_
   refine wT [(1, .b 1 0), (5, vi s2), (56, vb (!x6))] [(1, .box [.s (mA p_d.Synced), .s (mA p_d.Loose), vb p_d.Down])] Q3 J1 rfl ?_
   refine cn 56 (!x6) rfl hB2 (fun hb hB2 => ?_) fun hb hB2 => ?_
   ·refine sg ?_
    refine wE [(2, vb false)] Q1 ?_
    refine rt ?_
    have hB2 := out_ret hB2 hy2
    cases hB2
    exact Fz.v
   refine sk ?_
   refine rg ?_
   obtain ⟨hc3, hB2⟩ := chk_some hB2
   refine (Or.inl ⟨hc3, ?_⟩)
   exact ⟨_, sj hB2, wt Q2 J1 rfl⟩
  refine xt ?_
  have hB2 := out_ret hB2 hy2
  exact ⟨_, hB2, wt Q1 ⟨⟨_, rfl, .refl _⟩, Q0⟩ rfl⟩
 intro v3 h
 unfold ref04_Right_J2 at h
 obtain ⟨v4, hv4, h⟩ := bindS h
 refine Ok.seqw ⟨Cat.tab [(2, vb v4)], []⟩ ?_ ?_
 ·refine rg ?_
  refine ⟨_, rfl, ?_⟩
  obtain ⟨c3, hg3, hv4⟩ := bindS hv4
  refine Br.itf hg3 (fun hb hg3 => ?_) fun hb hg3 => ?_
  ·cases hg3
   cases hv4
   exact wt Q1 Q0 rfl
  refine ⟨_, rfl, _, List.length_map _, fun _ => ?_⟩
  cases hg3
  cases hv4
  exact wt Q1 Q0 rfl
 refine rt ?_
 cases h
 exact Fz.v
theorem w_law25_Great {p_d} {r} (h : law25_Great p_d = some r) : Pure Tryz.prog 25 [(.a [(.s (mA p_d.Synced)), (.s (mA p_d.Loose)), (vb p_d.Down)])] (vb r) := by
 refine po Tryz.tok 48 Tryz.func25 (by kernel_rfl) rfl rfl rfl ?_
 unfold law25_Great at h
 refine wE [(0, .a [.s (mA p_d.Synced), .s (mA p_d.Loose), vb p_d.Down])] Q1 ?_
 refine sg ?_
 refine wT [(1, .b 1 0)] [(1, .box [.s (mA p_d.Synced), .s (mA p_d.Loose), vb p_d.Down])] Q1 J1 rfl ?_
 refine sq ?_
 obtain ⟨v1, hv1, h⟩ := bindS h
 refine Ok.seqw ⟨Cat.tab [(1, .b 1 0), (14, vb v1)], [(1, .box [.s (mA p_d.Synced), .s (mA p_d.Loose), vb p_d.Down])]⟩ ?_ ?_
 ·refine rg ?_
  refine ⟨_, rfl, _, List.length_map _, fun _ => ?_⟩
  obtain ⟨c1, hg1, hv1⟩ := bindS hv1
  refine Br.itf hg1 (fun hb hg1 => ?_) fun hb hg1 => ?_
  ·cases hg1
   cases hv1
   exact wt Q2 J1 rfl
  refine ⟨_, rfl, _, List.length_map _, fun _ => ?_⟩
  cases hg1
  cases hv1
  exact wt Q2 J1 rfl
 refine cn 14 (v1) rfl h (fun hb h => ?_) fun hb h => ?_
 ·refine sg ?_
  refine wE [(2, vb true)] Q1 ?_
  refine rt ?_
  cases h
  exact Fz.v
 refine sk ?_
 refine Ok.seqj (fun v2 => ⟨Cat.tab [(1, .b 1 0)], [(1, .box [.s (mA p_d.Synced), .s (mA p_d.Loose), vb p_d.Down])]⟩) (fun v2 => law25_Great_J1 p_d v2 = some r) ?_ ?_
 ·refine sg ?_
  refine wT [(1, .b 1 0), (3, vi (0))] [(1, .box [.s (mA p_d.Synced), .s (mA p_d.Loose), vb p_d.Down])] Q2 J1 rfl ?_
  refine bl ?_
  refine Ok.loop (fun (s1 : Int) => ⟨Cat.tab [(1, .b 1 0), (3, vi s1)], [(1, .box [.s (mA p_d.Synced), .s (mA p_d.Loose), vb p_d.Down])]⟩) (law25_Great_B1 p_d) (s0 := 0) h (wt Q2 ⟨⟨_, rfl, .refl _⟩, Q0⟩ rfl) ?_
  intro s1 y1 hB1 hy1
  unfold law25_Great_B1 at hB1
  refine sq ?_
  refine sg ?_
  refine ⟨_, rfl, _, List.length_map _, fun _ => ?_⟩
  refine wT [(1, .b 1 0), (3, vi s1), (19, vb (decide (s1 < (p_d.Synced.length : Int))))] [(1, .box [.s (mA p_d.Synced), .s (mA p_d.Loose), vb p_d.Down])] Q3 J1 rfl ?_
  refine cn 19 (decide (s1 < (p_d.Synced.length : Int))) rfl hB1 (fun hb hB1 => ?_) fun hb hB1 => ?_
  ·refine sk ?_
   refine sq ?_
   refine bl ?_
   refine sg ?_
   obtain ⟨x1, hx1, hB1⟩ := bindS hB1
   refine ⟨_, rfl, _, idx_nat hx1, _, idx_row hx1, _, rfl, _, List.length_map _, fun _ => ?_⟩
   refine wT [(1, .b 1 0), (3, vi s1), (29, vb (decide ((x1.Data.length : Int) > 200)))] [(1, .box [.s (mA p_d.Synced), .s (mA p_d.Loose), vb p_d.Down])] Q3 J1 rfl ?_
   refine cn 29 (decide ((x1.Data.length : Int) > 200)) rfl hB1 (fun hb hB1 => ?_) fun hb hB1 => ?_
   ·refine sg ?_
    refine wE [(2, vb true)] Q1 ?_
    refine rt ?_
    have hB1 := out_ret hB1 hy1
    cases hB1
    exact Fz.v
   refine sk ?_
   refine rg ?_
   obtain ⟨hc1, hB1⟩ := chk_some hB1
   refine (Or.inl ⟨hc1, ?_⟩)
   exact ⟨_, sj hB1, wt Q2 J1 rfl⟩
  refine xt ?_
  have hB1 := out_ret hB1 hy1
  exact ⟨_, hB1, wt Q1 ⟨⟨_, rfl, .refl _⟩, Q0⟩ rfl⟩
 intro v2 h
 unfold law25_Great_J1 at h
 refine Ok.seqj (fun v3 => ⟨Cat.tab [(1, .b 1 0)], [(1, .box [.s (mA p_d.Synced), .s (mA p_d.Loose), vb p_d.Down])]⟩) (fun v3 => law25_Great_J2 p_d v3 = some r) ?_ ?_
 ·refine sg ?_
  refine wT [(1, .b 1 0), (4, vi (0))] [(1, .box [.s (mA p_d.Synced), .s (mA p_d.Loose), vb p_d.Down])] Q2 J1 rfl ?_
  refine bl ?_
  refine Ok.loop (fun (s2 : Int) => ⟨Cat.tab [(1, .b 1 0), (4, vi s2)], [(1, .box [.s (mA p_d.Synced), .s (mA p_d.Loose), vb p_d.Down])]⟩) (law25_Great_B2 p_d) (s0 := 0) h (wt Q2 ⟨⟨_, rfl, .refl _⟩, Q0⟩ rfl) ?_
  intro s2 y2 hB2 hy2
  unfold law25_Great_B2 at hB2
  refine sq ?_
  refine sg ?_
  refine ⟨_, rfl, _, List.length_map _, fun _ => ?_⟩
  refine wT [(1, .b 1 0), (4, vi s2), (34, vb (decide (s2 < (p_d.Loose.length : Int))))] [(1, .box [.s (mA p_d.Synced), .s (mA p_d.Loose), vb p_d.Down])] Q3 J1 rfl ?_
  refine cn 34 (decide (s2 < (p_d.Loose.length : Int))) rfl hB2 (fun hb hB2 => ?_) fun hb hB2 => ?_
  ·refine sk ?_
   refine sq ?_
   refine bl ?_
   refine sg ?_
   obtain ⟨x2, hx2, hB2⟩ := bindS hB2
   refine ⟨_, rfl, _, idx_nat hx2, _, idx_row hx2, _, rfl, _, List.length_map _, fun _ => ?_⟩
   refine wT [(1, .b 1 0), (4, vi s2), (44, vb (decide ((x2.Data.length : Int) > 200)))] [(1, .box [.s (mA p_d.Synced), .s (mA p_d.Loose), vb p_d.Down])] Q3 J1 rfl ?_
   refine cn 44 (decide ((x2.Data.length : Int) > 200)) rfl hB2 (fun hb hB2 => ?_) fun hb hB2 => ?_
   ·refine sg ?_
    refine wE [(2, vb true)] Q1 ?_
    refine rt ?_
    have hB2 := out_ret hB2 hy2
    cases hB2
    exact Fz.v
   refine sk ?_
   refine rg ?_
   obtain ⟨hc2, hB2⟩ := chk_some hB2
   refine (Or.inl ⟨hc2, ?_⟩)
   exact ⟨_, sj hB2, wt Q2 J1 rfl⟩
  refine xt ?_
  have hB2 := out_ret hB2 hy2
  exact ⟨_, hB2, wt Q1 ⟨⟨_, rfl, .refl _⟩, Q0⟩ rfl⟩
 intro v3 h
 unfold law25_Great_J2 at h
 refine sg ?_
 obtain ⟨x3, hx3, h⟩ := bindS h
 refine ⟨_, rfl, ?_⟩
 refine CallOk.call (w_ref04_Right hx3) (LeL.refl _) ?_
 refine wE [(2, vb (!x3))] Q1 ?_
 refine rt ?_
 cases h
 exact Fz.v
theorem w_law27_Great {p_disks} {p_l} {r} (h : law27_Great p_disks p_l = some r) : Pure Tryz.prog 6 [(.s (mC p_disks)), (.s (mD p_l))] (vb r) := by
 refine po Tryz.tok 39 Tryz.func6 (by kernel_rfl) rfl rfl rfl ?_
 unfold law27_Great at h
 refine wE [(0, .s (mC p_disks)), (1, .s (mD p_l))] Q2 ?_
 refine sg ?_
 refine wE [(0, .s (mC p_disks)), (1, .s (mD p_l))] Q2 ?_
 refine sq ?_
 obtain ⟨v1, hv1, h⟩ := bindS h
 refine Ok.seqw ⟨Cat.tab [(0, .s (mC p_disks)), (1, .s (mD p_l)), (14, vb v1)], []⟩ ?_ ?_
 ·refine rg ?_
  refine ⟨_, List.length_map _, fun _ => ?_⟩
  obtain ⟨c1, hg1, hv1⟩ := bindS hv1
  refine Br.itf hg1 (fun hb hg1 => ?_) fun hb hg1 => ?_
  ·cases hg1
   cases hv1
   exact wt Q3 Q0 rfl
  refine ⟨_, List.length_map _, fun _ => ?_⟩
  cases hg1
  cases hv1
  exact wt Q3 Q0 rfl
 refine cn 14 (v1) rfl h (fun hb h => ?_) fun hb h => ?_
 ·refine sg ?_
  refine wE [(4, vb true)] Q1 ?_
  refine rt ?_
  cases h
  exact Fz.v
 refine sk ?_
 refine Ok.seqj (fun v2 => ⟨Cat.tab [(1, .s (mD p_l))], []⟩) (fun v2 => law27_Great_J1 p_l v2 = some r) ?_ ?_
 ·refine sg ?_
  refine wE [(0, .s (mC p_disks)), (1, .s (mD p_l)), (5, vi (0))] Q3 ?_
  refine bl ?_
  refine Ok.loop (fun (s1 : Int) => ⟨Cat.tab [(0, .s (mC p_disks)), (1, .s (mD p_l)), (5, vi s1)], []⟩) (law27_Great_B1 p_disks p_l) (s0 := 0) h (wt Q3 Q0 rfl) ?_
  intro s1 y1 hB1 hy1
  unfold law27_Great_B1 at hB1
  refine sq ?_
  refine sg ?_
  refine ⟨_, List.length_map _, fun _ => ?_⟩
  refine wE [(0, .s (mC p_disks)), (1, .s (mD p_l)), (5, vi s1), (18, vb (decide (s1 < (p_disks.length : Int))))] Q4 ?_
  refine cn 18 (decide (s1 < (p_disks.length : Int))) rfl hB1 (fun hb hB1 => ?_) fun hb hB1 => ?_
  ·refine sk ?_
   refine sq ?_
   refine bl ?_
   refine sg ?_
   obtain ⟨x1, hx1, hB1⟩ := bindS hB1
   obtain ⟨x2, hx2, hB1⟩ := bindS hB1
   refine ⟨_, idx_nat hx1, _, idx_row hx1, _, rfl, ?_⟩
   refine CallOk.call (w_law25_Great hx2) (LeL.refl _) ?_
   refine wE [(0, .s (mC p_disks)), (1, .s (mD p_l)), (5, vi s1), (25, vb x2)] Q4 ?_
   refine cn 25 (x2) rfl hB1 (fun hb hB1 => ?_) fun hb hB1 => ?_
   ·refine sg ?_
    refine wE [(4, vb true)] Q1 ?_
    refine rt ?_
    have hB1 := out_ret hB1 hy1
    cases hB1
    exact Fz.v
   refine sk ?_
   refine rg ?_
   obtain ⟨hc1, hB1⟩ := chk_some hB1
   refine (Or.inl ⟨hc1, ?_⟩)
   exact ⟨_, sj hB1, wt Q3 Q0 rfl⟩
  refine xt ?_
  have hB1 := out_ret hB1 hy1
  exact ⟨_, hB1, wt Q1 Q0 rfl⟩
 intro v2 h
 unfold law27_Great_J1 at h
 refine Ok.seqj (fun v3 => ⟨Cat.tab [], []⟩) (fun v3 => law27_Great_J2 v3 = some r) ?_ ?_
 ·refine sg ?_
  refine wE [(1, .s (mD p_l)), (6, vi (0))] Q2 ?_
  refine bl ?_
  refine Ok.loop (fun (s2 : Int) => ⟨Cat.tab [(1, .s (mD p_l)), (6, vi s2)], []⟩) (law27_Great_B2 p_l) (s0 := 0) h (wt Q2 Q0 rfl) ?_
  intro s2 y2 hB2 hy2
  unfold law27_Great_B2 at hB2
  refine sq ?_
  refine sg ?_
  refine ⟨_, List.length_map _, fun _ => ?_⟩
  refine wE [(1, .s (mD p_l)), (6, vi s2), (29, vb (decide (s2 < (p_l.length : Int))))] Q3 ?_
  refine cn 29 (decide (s2 < (p_l.length : Int))) rfl hB2 (fun hb hB2 => ?_) fun hb hB2 => ?_
  ·refine sk ?_
   refine sq ?_
   refine bl ?_
   refine sg ?_
   obtain ⟨x3, hx3, hB2⟩ := bindS hB2
   refine ⟨_, idx_nat hx3, _, idx_row hx3, _, rfl, _, List.length_map _, fun _ => ?_⟩
   refine wE [(1, .s (mD p_l)), (6, vi s2), (38, vb (decide ((x3.Servers.length : Int) > 12)))] Q3 ?_
   refine cn 38 (decide ((x3.Servers.length : Int) > 12)) rfl hB2 (fun hb hB2 => ?_) fun hb hB2 => ?_
   ·refine sg ?_
    refine wE [(4, vb true)] Q1 ?_
    refine rt ?_
    have hB2 := out_ret hB2 hy2
    cases hB2
    exact Fz.v
   refine sk ?_
   refine rg ?_
   obtain ⟨hc2, hB2⟩ := chk_some hB2
   refine (Or.inl ⟨hc2, ?_⟩)
   exact ⟨_, sj hB2, wt Q2 Q0 rfl⟩
  refine xt ?_
  have hB2 := out_ret hB2 hy2
  exact ⟨_, hB2, wt Q0 Q0 rfl⟩
 intro v3 h
 unfold law27_Great_J2 at h
 refine sg ?_
 refine wE [(4, vb false)] Q1 ?_
 refine rt ?_
 cases h
 exact Fz.v
theorem w_ref27_has {p_l} {p_x} {r} (h : ref27_has p_l p_x = some r) : Pure Tryz.prog 26 [(.s (mU p_l)), (vi p_x)] (vb r) := by
 refine po Tryz.tok 18 Tryz.func26 (by kernel_rfl) rfl rfl rfl ?_
 unfold ref27_has at h
 refine wE [(0, .s (mU p_l)), (1, vi p_x)] Q2 ?_
 refine sg ?_
 refine wE [(0, .s (mU p_l)), (1, vi p_x)] Q2 ?_
 refine Ok.seqj (fun v1 => ⟨Cat.tab [], []⟩) (fun v1 => ref27_has_J1 v1 = some r) ?_ ?_
 ·refine sg ?_
  refine wE [(0, .s (mU p_l)), (1, vi p_x), (5, vi (0))] Q3 ?_
  refine bl ?_
  refine Ok.loop (fun (s1 : Int) => ⟨Cat.tab [(0, .s (mU p_l)), (1, vi p_x), (5, vi s1)], []⟩) (ref27_has_B1 p_l p_x) (s0 := 0) h (wt Q3 Q0 rfl) ?_
  intro s1 y1 hB1 hy1
  unfold ref27_has_B1 at hB1
  refine sq ?_
  refine sg ?_
  refine ⟨_, List.length_map _, fun _ => ?_⟩
  refine wE [(0, .s (mU p_l)), (1, vi p_x), (5, vi s1), (9, vb (decide (s1 < (p_l.length : Int))))] Q4 ?_
  refine cn 9 (decide (s1 < (p_l.length : Int))) rfl hB1 (fun hb hB1 => ?_) fun hb hB1 => ?_
  ·refine sk ?_
   refine sq ?_
   refine bl ?_
   refine sg ?_
   obtain ⟨x1, hx1, hB1⟩ := bindS hB1
   refine ⟨_, idx_nat hx1, _, idx_row hx1, _, rfl, ?_⟩
   refine wE [(0, .s (mU p_l)), (1, vi p_x), (5, vi s1), (17, vb (x1 == p_x))] Q4 ?_
   refine cn 17 (x1 == p_x) rfl hB1 (fun hb hB1 => ?_) fun hb hB1 => ?_
   ·refine sg ?_
    refine wE [(4, vb true)] Q1 ?_
    refine rt ?_
    have hB1 := out_ret hB1 hy1
    cases hB1
    exact Fz.v
   refine sk ?_
   refine rg ?_
   obtain ⟨hc1, hB1⟩ := chk_some hB1
   refine (Or.inl ⟨hc1, ?_⟩)
   exact ⟨_, sj hB1, wt Q3 Q0 rfl⟩
  refine xt ?_
  have hB1 := out_ret hB1 hy1
  exact ⟨_, hB1, wt Q0 Q0 rfl⟩
 intro v1 h
 unfold ref27_has_J1 at h
 refine sg ?_
 refine wE [(4, vb false)] Q1 ?_
 refine rt ?_
 cases h
 exact Fz.v
theorem w_ref27_Right {p_l} {r} (h : ref27_Right p_l = some r) : Pure Tryz.prog 7 [(.s (mD p_l))] (vb r) := by
 refine po Tryz.tok 80 Tryz.func7 (by kernel_rfl) rfl rfl rfl ?_
 unfold ref27_Right at h
 refine wE [(0, .s (mD p_l))] Q1 ?_
 refine sg ?_
 refine wE [(0, .s (mD p_l))] Q1 ?_
 refine Ok.seqj (fun v1 => ⟨Cat.tab [], []⟩) (fun v1 => ref27_Right_J1 v1 = some r) ?_ ?_
 ·refine sg ?_
  refine wE [(0, .s (mD p_l)), (3, vi (0))] Q2 ?_
  refine bl ?_
  refine Ok.loop (fun (s1 : Int) => ⟨Cat.tab [(0, .s (mD p_l)), (3, vi s1)], []⟩) (ref27_Right_B1 p_l) (s0 := 0) h (wt Q2 Q0 rfl) ?_
  intro s1 y1 hB1 hy1
  unfold ref27_Right_B1 at hB1
  refine sq ?_
  refine sg ?_
  refine ⟨_, List.length_map _, fun _ => ?_⟩
  refine wE [(0, .s (mD p_l)), (3, vi s1), (9, vb (decide (s1 < (p_l.length : Int))))] Q3 ?_
  refine cn 9 (decide (s1 < (p_l.length : Int))) rfl hB1 (fun hb hB1 => ?_) fun hb hB1 => ?_
  ·refine sk ?_
   refine Ok.seqj (fun v2 => ⟨Cat.tab [(0, .s (mD p_l)), (3, vi s1)], []⟩) (fun v2 => ref27_Right_J2 s1 v2 = some y1) ?_ ?_
   ·refine bl ?_
    refine sg ?_
    obtain ⟨x1, hx1, hB1⟩ := bindS hB1
    refine ⟨_, idx_nat hx1, _, idx_row hx1, _, rfl, _, rfl, ?_⟩
    refine wT [(0, .s (mD p_l)), (3, vi s1), (4, .b 4 0)] [(4, .box [vi x1.Id, vi x1.Ver, .s (mU x1.Servers)])] Q3 J1 rfl ?_
    refine sq ?_
    obtain ⟨v3, hv3, hB1⟩ := bindS hB1
    refine Ok.seqw ⟨Cat.tab [(0, .s (mD p_l)), (3, vi s1), (4, .b 4 0), (54, vb v3)], [(4, .box [vi x1.Id, vi x1.Ver, .s (mU x1.Servers)])]⟩ ?_ ?_
    ·refine Ok.draw (m := 39) (MD := ⟨[]⟩) (CH := ⟨[]⟩) Tryz.tok Tryz.mixed (by kernel_rfl) ?_
     refine ⟨_, rfl, _, ⟨_, rfl, rfl⟩, _, rfl, _, rfl, ?_⟩
     obtain ⟨c1, hg1, hv3⟩ := bindS hv3
     refine Br.itf hg1 (fun hb hg1 => ?_) fun hb hg1 => ?_
     ·cases hg1
      refine ⟨_, rfl, ?_⟩
      refine ⟨_, rfl, ?_⟩
      obtain ⟨c2, hg2, hv3⟩ := bindS hv3
      replace hg2 := iteT hg2
      cases hg2
      refine ⟨_, rfl, ?_⟩
      refine ⟨_, rfl, ?_⟩
      obtain ⟨c3, hg3, hv3⟩ := bindS hv3
      replace hg3 := iteT hg3
      cases hg3
      refine ⟨_, rfl, ?_⟩
      refine ⟨_, rfl, ?_⟩
      obtain ⟨c4, hg4, hv3⟩ := bindS hv3
      replace hg4 := iteT hg4
      cases hg4
      refine ⟨_, rfl, ?_⟩
      refine ⟨_, rfl, ?_⟩
      obtain ⟨c6, hg5, hv3⟩ := bindS hv3
      replace hg5 := iteT hg5
      cases hg5
      refine ⟨_, rfl, ?_⟩
      refine ⟨Q0, ?_⟩
      cases hv3
      exact wt Q4 J1 rfl
     refine ⟨_, rfl, _, ⟨_, rfl, rfl⟩, _, rfl, ?_⟩
     cases hg1
     refine ⟨_, rfl, ?_⟩
     refine ⟨_, rfl, ?_⟩
     obtain ⟨c2, hg6, hv3⟩ := bindS hv3
     refine Br.itf hg6 (fun hb hg6 => ?_) fun hb hg6 => ?_
     ·cases hg6
      refine ⟨_, rfl, ?_⟩
      refine ⟨_, rfl, ?_⟩
      obtain ⟨c3, hg7, hv3⟩ := bindS hv3
      replace hg7 := iteT hg7
      cases hg7
      refine ⟨_, rfl, ?_⟩
      refine ⟨_, rfl, ?_⟩
      obtain ⟨c4, hg8, hv3⟩ := bindS hv3
      replace hg8 := iteT hg8
      cases hg8
      refine ⟨_, rfl, ?_⟩
      refine ⟨_, rfl, ?_⟩
      obtain ⟨c6, hg9, hv3⟩ := bindS hv3
      replace hg9 := iteT hg9
      cases hg9
      refine ⟨_, rfl, ?_⟩
      refine ⟨Q0, ?_⟩
      cases hv3
      exact wt Q4 J1 rfl
     refine ⟨_, rfl, _, ⟨_, rfl, rfl⟩, _, rfl, ?_⟩
     cases hg6
     refine ⟨_, rfl, ?_⟩
     refine ⟨_, rfl, ?_⟩
     obtain ⟨c3, hg10, hv3⟩ := bindS hv3
     refine Br.itf hg10 (fun hb hg10 => ?_) fun hb hg10 => ?_
     ·cases hg10
      refine ⟨_, rfl, ?_⟩
      refine ⟨_, rfl, ?_⟩
      obtain ⟨c4, hg11, hv3⟩ := bindS hv3
      replace hg11 := iteT hg11
      cases hg11
      refine ⟨_, rfl, ?_⟩
      refine ⟨_, rfl, ?_⟩
      obtain ⟨c6, hg12, hv3⟩ := bindS hv3
      replace hg12 := iteT hg12
      cases hg12
      refine ⟨_, rfl, ?_⟩
      refine ⟨Q0, ?_⟩
      cases hv3
      exact wt Q4 J1 rfl
     refine ⟨_, rfl, _, ⟨_, rfl, rfl⟩, _, rfl, ?_⟩
     cases hg10
     refine ⟨_, rfl, ?_⟩
     refine ⟨_, rfl, ?_⟩
     obtain ⟨c4, hg13, hv3⟩ := bindS hv3
     refine Br.itf hg13 (fun hb hg13 => ?_) fun hb hg13 => ?_
     ·cases hg13
      refine ⟨_, rfl, ?_⟩
      refine ⟨_, rfl, ?_⟩
      obtain ⟨c6, hg14, hv3⟩ := bindS hv3
      replace hg14 := iteT hg14
      cases hg14
      refine ⟨_, rfl, ?_⟩
      refine ⟨Q0, ?_⟩
      cases hv3
      exact wt Q4 J1 rfl
     refine ⟨_, rfl, _, ⟨_, rfl, rfl⟩, _, ⟨_, List.length_map _, fun _ => rfl⟩, _, rfl, ?_⟩
     cases hg13
     refine ⟨_, rfl, ?_⟩
     refine ⟨_, rfl, ?_⟩
     obtain ⟨c6, hg15, hv3⟩ := bindS hv3
     refine Br.itf hg15 (fun hb hg15 => ?_) fun hb hg15 => ?_
     ·cases hg15
      refine ⟨_, rfl, ?_⟩
      refine ⟨Q0, ?_⟩
      cases hv3
      exact wt Q4 J1 rfl
     refine ⟨_, rfl, _, rfl, _, rfl, ?_⟩
     obtain ⟨c5, hg16, hg15⟩ := bindS hg15
     refine Br.ite hg16 (fun hb hg16 => ?_) fun hb hg16 => ?_
     ·obtain ⟨hc1, hg16⟩ := chk_some hg16
      obtain ⟨x2, hx2, hg16⟩ := bindS hg16
      refine ⟨_, rfl, _, rfl, _, Or.inl ⟨hc1, rfl⟩, _, ⟨_, idx_nat hx2, _, idx_row hx2, rfl⟩, _, rfl, _, ⟨_, rfl, rfl⟩, _, rfl, _, ⟨_, rfl, rfl⟩, _, rfl, ?_⟩
      cases hg16
      refine ⟨_, rfl, ?_⟩
      cases hg15
      refine ⟨_, rfl, ?_⟩
      refine ⟨Q0, ?_⟩
      cases hv3
      exact wt Q4 J1 rfl
     cases hg16
     refine ⟨_, rfl, ?_⟩
     cases hg15
     refine ⟨_, rfl, ?_⟩
     refine ⟨Q0, ?_⟩
     cases hv3
     exact wt Q4 J1 rfl
    refine cn 54 (v3) rfl hB1 (fun hb hB1 => ?_) fun hb hB1 => ?_
    ·refine sg ?_
     refine wE [(2, vb false)] Q1 ?_
     refine rt ?_
     have hB1 := out_ret hB1 hy1
     cases hB1
     exact Fz.v
    refine sk ?_
    refine sg ?_
    refine wT [(0, .s (mD p_l)), (3, vi s1), (4, .b 4 0), (5, vi (0))] [(4, .box [vi x1.Id, vi x1.Ver, .s (mU x1.Servers)])] Q4 J1 rfl ?_
    refine bl ?_
    refine Ok.loop (fun (s2 : Int) => ⟨Cat.tab [(0, .s (mD p_l)), (3, vi s1), (4, .b 4 0), (5, vi s2)], [(4, .box [vi x1.Id, vi x1.Ver, .s (mU x1.Servers)])]⟩) (ref27_Right_B2 x1 s1) (s0 := 0) hB1 (wt Q4 ⟨⟨_, rfl, .refl _⟩, Q0⟩ rfl) ?_
    intro s2 y2 hB2 hy2
    unfold ref27_Right_B2 at hB2
    refine sq ?_
    refine sg ?_
    refine ⟨_, rfl, _, List.length_map _, fun _ => ?_⟩
    refine wT [(0, .s (mD p_l)), (3, vi s1), (4, .b 4 0), (5, vi s2), (59, vb (decide (s2 < (x1.Servers.length : Int))))] [(4, .box [vi x1.Id, vi x1.Ver, .s (mU x1.Servers)])] Q5 J1 rfl ?_
    refine cn 59 (decide (s2 < (x1.Servers.length : Int))) rfl hB2 (fun hb hB2 => ?_) fun hb hB2 => ?_
    ·refine sk ?_
     refine sq ?_
     refine bl ?_
     obtain ⟨v4, hv4, hB2⟩ := bindS hB2
     refine Ok.seqw ⟨Cat.tab [(0, .s (mD p_l)), (3, vi s1), (4, .b 4 0), (5, vi s2), (79, vb v4)], [(4, .box [vi x1.Id, vi x1.Ver, .s (mU x1.Servers)])]⟩ ?_ ?_
     ·refine Ok.draw (m := 18) (MD := ⟨[]⟩) (CH := ⟨[]⟩) Tryz.tok Tryz.mixed (by kernel_rfl) ?_
      obtain ⟨x3, hx3, hv4⟩ := bindS hv4
      refine ⟨_, rfl, _, ⟨_, rfl, rfl⟩, _, rfl, _, ⟨_, idx_nat hx3, _, idx_row hx3, rfl⟩, _, ⟨_, rfl, rfl⟩, _, rfl, _, rfl, ?_⟩
      obtain ⟨c7, hg17, hv4⟩ := bindS hv4
      refine Br.itf hg17 (fun hb hg17 => ?_) fun hb hg17 => ?_
      ·cases hg17
       refine ⟨_, rfl, ?_⟩
       refine ⟨Q0, ?_⟩
       cases hv4
       exact wt Q5 J1 rfl
      obtain ⟨hc2, hg17⟩ := chk_some hg17
      obtain ⟨x4, hx4, hg17⟩ := bindS hg17
      obtain ⟨x5, hx5, hg17⟩ := bindS hg17
      refine ⟨_, rfl, _, ⟨_, rfl, rfl⟩, _, rfl, _, ⟨_, sl_nat hc2.1, Nat.zero_le _, sl_len hc2, rowsK (f := Go.Cat.encI) (K := 1) (fun _ => rfl) x1.Servers, _, sl_take _ _ _, rfl⟩, _, rfl, _, ⟨_, rfl, rfl⟩, _, rfl, _, ⟨_, idx_nat hx4, _, idx_row hx4, rfl⟩, _, ⟨_, rfl, rfl⟩, _, ⟨_, .of_pure (w_ref27_has hx5) (LeL.refl _), rfl⟩, ?_⟩
      cases hg17
      refine ⟨_, rfl, ?_⟩
      refine ⟨Q0, ?_⟩
      cases hv4
      exact wt Q5 J1 rfl
     refine cn 79 (v4) rfl hB2 (fun hb hB2 => ?_) fun hb hB2 => ?_
     ·refine sg ?_
      refine wE [(2, vb false)] Q1 ?_
      refine rt ?_
      have hB2 := out_ret hB2 hy2
      have hB2 := out_ret hB2 hy1
      cases hB2
      exact Fz.v
     refine sk ?_
     refine rg ?_
     obtain ⟨hc3, hB2⟩ := chk_some hB2
     refine (Or.inl ⟨hc3, ?_⟩)
     exact ⟨_, sj hB2, wt Q4 J1 rfl⟩
    refine xt ?_
    have hB2 := out_ret hB2 hy2
    exact ⟨_, hB2, wt Q2 Q0 rfl⟩
   intro v2 hB1
   unfold ref27_Right_J2 at hB1
   refine rg ?_
   obtain ⟨hc4, hB1⟩ := chk_some hB1
   refine (Or.inl ⟨hc4, ?_⟩)
   exact ⟨_, sj hB1, wt Q2 Q0 rfl⟩
  refine xt ?_
  have hB1 := out_ret hB1 hy1
  exact ⟨_, hB1, wt Q0 Q0 rfl⟩
 intro v1 h
 unfold ref27_Right_J1 at h
 refine sg ?_
 refine wE [(2, vb true)] Q1 ?_
 refine rt ?_
 cases h
 exact Fz.v
theorem wg_scrub_all {p_disks} {p_c} {r} (h : scrub_all p_disks p_c = some r) : CallOk Tryz.prog 63 [(.s (mC p_disks)), (.a [(vi p_c.Id), (vi p_c.Ver), (.s (mU p_c.Servers))])] ⟨noSlots, []⟩ fun x s => x = (.c (.func 90) [] [(.b 3 0), (.b 2 0)]) ∧ s.H = [(3, .box [(vi p_c.Id), (vi p_c.Ver), (.s (mU p_c.Servers))]), (2, .box [(.s (mC p_disks))])] := by
 refine pgen_of_ok (n := 6) (c := Tryz.f63.body.getD .skip) Tryz.tok Tryz.func63 (by kernel_rfl) rfl rfl (Nat.le_of_ble_eq_true rfl) ?_
 unfold scrub_all at h
 refine wE [(0, .s (mC p_disks)), (1, .a [vi p_c.Id, vi p_c.Ver, .s (mU p_c.Servers)])] Q2 ?_
 refine sg ?_
 refine wT [(2, .b 2 0), (3, .b 3 0)] [(2, .box [.s (mC p_disks)]), (3, .box [vi p_c.Id, vi p_c.Ver, .s (mU p_c.Servers)])] Q2 J2 rfl ?_
 refine sg ?_
 refine wT [(4, .c (.func 90) [] [.b 3 0, .b 2 0])] [(3, .box [vi p_c.Id, vi p_c.Ver, .s (mU p_c.Servers)]), (2, .box [.s (mC p_disks)])] Q1 J2 rfl ?_
 refine rt ?_
 cases h
 exact wt Q1 J2 rfl
theorem w_chunk_within {p_id} {r} (h : chunk_within p_id = some r) : Pure Tryz.prog 102 [(vi p_id)] (vb r) := by
 refine po Tryz.tok 9 Tryz.func102 (by kernel_rfl) rfl rfl rfl ?_
 unfold chunk_within at h
 refine wE [(0, vi p_id)] Q1 ?_
 refine sg ?_
 refine wE [(0, vi p_id)] Q1 ?_
 obtain ⟨v1, hv1, h⟩ := bindS h
 refine Ok.seqw ⟨Cat.tab [(2, vb v1)], []⟩ ?_ ?_
 ·refine rg ?_
  obtain ⟨c1, hg1, hv1⟩ := bindS hv1
  refine Br.ite hg1 (fun hb hg1 => ?_) fun hb hg1 => ?_
  ·cases hg1
   cases hv1
   exact wt Q1 Q0 rfl
  cases hg1
  cases hv1
  exact wt Q1 Q0 rfl
 refine rt ?_
 cases h
 exact Fz.v
theorem w_disk_may {p_at} {p_data} {r} (h : disk_may p_at p_data = some r) : Pure Tryz.prog 132 [(vi p_at), (.s (mI p_data))] (vb r) := by
 refine po Tryz.tok 16 Tryz.func132 (by kernel_rfl) rfl rfl rfl ?_
 unfold disk_may at h
 refine wE [(0, vi p_at), (1, .s (mI p_data))] Q2 ?_
 refine sg ?_
 refine wE [(0, vi p_at), (1, .s (mI p_data))] Q2 ?_
 obtain ⟨v1, hv1, h⟩ := bindS h
 refine Ok.seqw ⟨Cat.tab [(4, vb v1)], []⟩ ?_ ?_
 ·refine rg ?_
  obtain ⟨c1, hg1, hv1⟩ := bindS hv1
  refine Br.ite hg1 (fun hb hg1 => ?_) fun hb hg1 => ?_
  ·cases hg1
   obtain ⟨c2, hg2, hv1⟩ := bindS hv1
   refine Br.ite hg2 (fun hb hg2 => ?_) fun hb hg2 => ?_
   ·refine ⟨_, List.length_map _, fun _ => ?_⟩
    cases hg2
    cases hv1
    exact wt Q1 Q0 rfl
   cases hg2
   cases hv1
   exact wt Q1 Q0 rfl
  cases hg1
  obtain ⟨c2, hg3, hv1⟩ := bindS hv1
  replace hg3 := iteF hg3
  cases hg3
  cases hv1
  exact wt Q1 Q0 rfl
 refine rt ?_
 cases h
 exact Fz.v
theorem wo_slices_Grow_api_Page_api_Page__nil {p_n} {r} (h : slices_Grow_api_Page_api_Page__nil p_n = some r) : POwn Tryz.prog 165 [(.v (.slice none 0 0)), (vi p_n)] 85 2 (mA r) := by
 refine pw Tryz.tok 27 Tryz.func165 (by kernel_rfl) rfl rfl rfl ?_
 unfold slices_Grow_api_Page_api_Page__nil at h
 refine wE [(0, .v (.slice none 0 0)), (1, vi p_n)] Q2 ?_
 refine sg ?_
 refine wE [(0, .v (.slice none 0 0)), (1, vi p_n)] Q2 ?_
 obtain ⟨v1, hv1, h⟩ := bindS h
 refine Ok.seqw ⟨Cat.tab [(0, .v (.slice none 0 0)), (1, vi p_n)], []⟩ ?_ ?_
 ·refine sg ?_
  refine wE [(0, .v (.slice none 0 0)), (1, vi p_n), (6, vb (decide (p_n < 0)))] Q3 ?_
  refine cn 6 (decide (p_n < 0)) rfl hv1 (fun hb hv1 => ?_) fun hb hv1 => ?_
  ·cases hv1
  refine sk ?_
  cases hv1
  exact wt Q2 Q0 rfl
 obtain ⟨v2, hv2, h⟩ := bindS h
 refine Ok.seqw ⟨Cat.tab [(0, .o 22)], [(22, .own 85 2 (mA v2))]⟩ ?_ ?_
 ·refine sg ?_
  obtain ⟨hc1, hv2⟩ := chk_some hv2
  refine (Or.inl ⟨by decide, (Or.inl ⟨hc1, ?_⟩)⟩)
  refine wE [(0, .v (.slice none 0 0)), (1, vi (p_n - 0))] Q2 ?_
  refine sg ?_
  refine wE [(0, .v (.slice none 0 0)), (1, vi (p_n - 0)), (16, vb (decide ((p_n - 0) > 0)))] Q3 ?_
  refine cn 16 (decide ((p_n - 0) > 0)) rfl hv2 (fun hb hv2 => ?_) fun hb hv2 => ?_
  ·refine rg ?_
   obtain ⟨hc2, hv2⟩ := chk_some hv2
   obtain ⟨hc3, hv2⟩ := chk_some hv2
   refine ⟨0, rfl, Nat.le_refl _, Nat.le_refl _, _, mk_nat hc2, hc2.2, _, (List.map_replicate (f := c_api_Page) (a := ((⟨0, []⟩ : api_Page) : api_Page))).symm, _, sl_nat hc3.1, sl_own hc3, _, (List.map_take (f := c_api_Page)).symm, ?_⟩
   cases hv2
   exact wt Q1 J1 rfl
  refine sk ?_
  cases hv2
  exact (Wk.own0 (t := 0) (id := 22) (E := 85) (K := 2) rfl rfl).trans (wt Q1 ⟨⟨_, rfl, .refl _⟩, Q0⟩ rfl)
 refine sg ?_
 refine wT [(4, .o 22)] [(22, .own 85 2 (mA v2))] Q1 J1 rfl ?_
 refine rt ?_
 cases h
 exact (.inr ⟨_, rfl, rfl⟩)
theorem wo_slices_Concat_api_Page_api_Page {p_slices} {r} (h : slices_Concat_api_Page_api_Page p_slices = some r) : POwn Tryz.prog 140 [(.s (mF p_slices))] 85 2 (mA r) := by
 refine pw Tryz.tok 36 Tryz.func140 (by kernel_rfl) rfl rfl rfl ?_
 unfold slices_Concat_api_Page_api_Page at h
 refine wE [(0, .s (mF p_slices))] Q1 ?_
 refine sg ?_
 refine wE [(0, .s (mF p_slices))] Q1 ?_
 refine sg ?_
 refine wE [(0, .s (mF p_slices)), (3, vi (0))] Q2 ?_
 obtain ⟨v1, hv1, h⟩ := bindS h
 refine Ok.seqw ⟨Cat.tab [(0, .s (mF p_slices)), (3, vi v1)], []⟩ ?_ ?_
 ·refine sg ?_
  refine ⟨_, List.length_map _, fun _ => ?_⟩
  refine wE [(0, .s (mF p_slices)), (3, vi (0)), (9, .s (mF p_slices)), (10, vi (p_slices.length : Int)), (11, vi (0))] Q5 ?_
  refine bl ?_
  refine Ok.loop (fun (s1 : Int × Int) => ⟨Cat.tab [(0, .s (mF p_slices)), (3, vi s1.1), (9, .s (mF p_slices)), (10, vi (p_slices.length : Int)), (11, vi s1.2)], []⟩) (slices_Concat_api_Page_api_Page_B1 p_slices) (s0 := (0, 0)) hv1 (wt Q5 Q0 rfl) ?_
  intro s1 y1 hB1 hy1
  unfold slices_Concat_api_Page_api_Page_B1 at hB1
  refine sg ?_
  refine wE [(0, .s (mF p_slices)), (3, vi s1.1), (9, .s (mF p_slices)), (10, vi (p_slices.length : Int)), (11, vi s1.2), (12, vb (decide (s1.2 < (p_slices.length : Int))))] Q6 ?_
  refine sq ?_
  refine cn 12 (decide (s1.2 < (p_slices.length : Int))) rfl hB1 (fun hb hB1 => ?_) fun hb hB1 => ?_
  ·refine sk ?_
   obtain ⟨v2, hv2, hB1⟩ := bindS hB1
   refine Ok.seqw ⟨Cat.tab [(0, .s (mF p_slices)), (3, vi v2), (9, .s (mF p_slices)), (10, vi (p_slices.length : Int)), (11, vi s1.2)], []⟩ ?_ ?_
   ·refine bl ?_
    refine sg ?_
    obtain ⟨x1, hx1, hv2⟩ := bindS hv2
    refine ⟨_, idx_nat hx1, _, idx_row hx1, _, rfl, ?_⟩
    refine wE [(0, .s (mF p_slices)), (3, vi s1.1), (5, .s (mA x1)), (9, .s (mF p_slices)), (10, vi (p_slices.length : Int)), (11, vi s1.2)] Q6 ?_
    refine sg ?_
    obtain ⟨hc1, hv2⟩ := chk_some hv2
    refine ⟨_, List.length_map _, fun _ => (Or.inl ⟨hc1, ?_⟩)⟩
    refine wE [(0, .s (mF p_slices)), (3, vi (s1.1 + (x1.length : Int))), (9, .s (mF p_slices)), (10, vi (p_slices.length : Int)), (11, vi s1.2)] Q5 ?_
    refine sg ?_
    refine wE [(0, .s (mF p_slices)), (3, vi (s1.1 + (x1.length : Int))), (9, .s (mF p_slices)), (10, vi (p_slices.length : Int)), (11, vi s1.2), (20, vb (decide ((s1.1 + (x1.length : Int)) < 0)))] Q6 ?_
    refine cn 20 (decide ((s1.1 + (x1.length : Int)) < 0)) rfl hv2 (fun hb hv2 => ?_) fun hb hv2 => ?_
    ·cases hv2
    refine sk ?_
    cases hv2
    exact wt Q5 Q0 rfl
   refine rg ?_
   obtain ⟨hc2, hB1⟩ := chk_some hB1
   refine (Or.inl ⟨hc2, ?_⟩)
   exact ⟨_, sj hB1, wt Q5 Q0 rfl⟩
  refine xt ?_
  have hB1 := out_ret hB1 hy1
  cases hB1
  exact wt Q2 Q0 rfl
 refine sg ?_
 obtain ⟨x2, hx2, h⟩ := bindS h
 refine CallOk.own (D := 24) (wo_slices_Grow_api_Page_api_Page__nil hx2) (LeL.refl _) rfl ?_
 refine wT [(0, .s (mF p_slices)), (6, .o 24)] [(24, .own 85 2 (mA x2))] Q2 J1 rfl ?_
 obtain ⟨v3, hv3, h⟩ := bindS h
 refine Ok.seqw ⟨Cat.tab [(6, .o 24)], [(24, .own 85 2 (mA v3))]⟩ ?_ ?_
 ·refine sg ?_
  refine ⟨_, List.length_map _, fun _ => ?_⟩
  refine wT [(6, .o 24), (25, .s (mF p_slices)), (26, vi (p_slices.length : Int)), (27, vi (0))] [(24, .own 85 2 (mA x2))] Q4 J1 rfl ?_
  refine bl ?_
  refine Ok.loop (fun (s2 : Int × (List api_Page)) => ⟨Cat.tab [(6, .o 24), (25, .s (mF p_slices)), (26, vi (p_slices.length : Int)), (27, vi s2.1)], [(24, .own 85 2 (mA s2.2))]⟩) (slices_Concat_api_Page_api_Page_B2 p_slices) (s0 := (0, x2)) hv3 (wt Q4 ⟨⟨_, rfl, .refl _⟩, Q0⟩ rfl) ?_
  intro s2 y2 hB2 hy2
  unfold slices_Concat_api_Page_api_Page_B2 at hB2
  refine sg ?_
  refine wT [(6, .o 24), (25, .s (mF p_slices)), (26, vi (p_slices.length : Int)), (27, vi s2.1), (28, vb (decide (s2.1 < (p_slices.length : Int))))] [(24, .own 85 2 (mA s2.2))] Q5 J1 rfl ?_
  refine sq ?_
  refine cn 28 (decide (s2.1 < (p_slices.length : Int))) rfl hB2 (fun hb hB2 => ?_) fun hb hB2 => ?_
  ·refine sk ?_
   refine sq ?_
   refine bl ?_
   refine sg ?_
   obtain ⟨x3, hx3, hB2⟩ := bindS hB2
   refine ⟨_, idx_nat hx3, _, idx_row hx3, _, rfl, ?_⟩
   refine wT [(6, .o 24), (8, .s (mA x3)), (25, .s (mF p_slices)), (26, vi (p_slices.length : Int)), (27, vi s2.1)] [(24, .own 85 2 (mA s2.2))] Q5 J1 rfl ?_
   refine rg ?_
   obtain ⟨hc3, hB2⟩ := chk_some hB2
   refine ⟨rowsLen_map (f := c_api_Page) (n := 2) (fun _ => rfl) x3, app_b2 (f := c_api_Page) (l := s2.2) (l' := x3) hc3, _, (List.map_append (f := c_api_Page) (l₁ := s2.2) (l₂ := x3)).symm, ?_⟩
   refine wT [(6, .o 24), (25, .s (mF p_slices)), (26, vi (p_slices.length : Int)), (27, vi s2.1)] [(24, .own 85 2 (mA (s2.2 ++ x3)))] Q4 J1 rfl ?_
   refine rg ?_
   obtain ⟨hc4, hB2⟩ := chk_some hB2
   refine (Or.inl ⟨hc4, ?_⟩)
   exact ⟨_, sj hB2, wt Q4 J1 rfl⟩
  refine xt ?_
  have hB2 := out_ret hB2 hy2
  cases hB2
  exact wt Q1 J1 rfl
 refine sg ?_
 refine wT [(2, .o 24)] [(24, .own 85 2 (mA v3))] Q1 J1 rfl ?_
 refine rt ?_
 cases h
 exact (.inr ⟨_, rfl, rfl⟩)
theorem w_slices_Concat_api_Page_api_Page {p_slices} {r} (h : slices_Concat_api_Page_api_Page p_slices = some r) : Pure Tryz.prog 140 [(.s (mF p_slices))] (.s (mA r)) := (wo_slices_Concat_api_Page_api_Page h).pure
end Go.Proofs
