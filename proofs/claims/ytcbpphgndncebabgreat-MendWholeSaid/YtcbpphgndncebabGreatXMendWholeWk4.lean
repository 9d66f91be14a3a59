/- The walks of this seat beside the plain programs, part 4. No condition. -/
import Derived.Test.YtcbpphgndncebabGreatXMendWholeEn
import Derived.Test.YtcbpphgndncebabGreatXMendWholeWk0
import Derived.Test.YtcbpphgndncebabGreatXMendWholeWk1
import Derived.Test.YtcbpphgndncebabGreatXMendWholeWk2
import Derived.Test.YtcbpphgndncebabGreatXMendWholeWk3
namespace Go.Proofs
set_option linter.all false
open Go Go.Cat
variable [M : Mono]
set_option maxRecDepth 100000
theorem w_law28_MendWhole [Off] {p_disks} {p_chains} {p_by} {r} (h : law28_MendWhole p_disks p_chains p_by = some r) : Pure Tryz.prog 4 [(.s (mC p_disks)), (.s (mD p_chains)), (vu p_by)] (vb r) := by
 refine po Tryz.tok 183 Tryz.func4 (by kernel_rfl) rfl rfl rfl ?_
 unfold law28_MendWhole at h
 refine wE [(0, .s (mC p_disks)), (1, .s (mD p_chains)), (2, vu p_by)] Q3 ?_
 refine sg ?_
 refine wE [(0, .s (mC p_disks)), (1, .s (mD p_chains)), (2, vu p_by)] Q3 ?_
 refine sg ?_
 obtain ⟨x1, hx1, h⟩ := bindS h
 refine CallOk.call (w_law28_head hx1) (LeL.refl _) ?_
 refine wE [(0, .s (mC p_disks)), (1, .s (mD p_chains)), (2, vu p_by), (7, vb x1)] Q4 ?_
 refine sq ?_
 obtain ⟨v1, hv1, h⟩ := bindS h
 refine Ok.seqw ⟨Cat.tab [(0, .s (mC p_disks)), (1, .s (mD p_chains)), (2, vu p_by), (7, vb x1), (39, vb v1)], []⟩ ?_ ?_
 ·refine rg ?_
  obtain ⟨x2, hx2, hv1⟩ := bindS hv1
  refine CallOk.call (w_law27_Great hx2) (LeL.refl _) ?_
  obtain ⟨c1, hg1, hv1⟩ := bindS hv1
  refine Br.itf hg1 (fun hb hg1 => ?_) fun hb hg1 => ?_
  ·cases hg1
   obtain ⟨c2, hg2, hv1⟩ := bindS hv1
   replace hg2 := iteT hg2
   cases hg2
   cases hv1
   exact wt Q5 Q0 rfl
  obtain ⟨x3, hx3, hg1⟩ := bindS hg1
  refine CallOk.call (w_ref27_Right hx3) (LeL.refl _) ?_
  cases hg1
  obtain ⟨c2, hg3, hv1⟩ := bindS hv1
  refine Br.itf hg3 (fun hb hg3 => ?_) fun hb hg3 => ?_
  ·cases hg3
   cases hv1
   exact wt Q5 Q0 rfl
  refine ⟨_, List.length_map _, fun _ => ?_⟩
  cases hg3
  cases hv1
  exact wt Q5 Q0 rfl
 refine cn 39 (v1) rfl h (fun hb h => ?_) fun hb h => ?_
 ·refine sg ?_
  refine wE [(6, vb x1)] Q1 ?_
  refine rt ?_
  cases h
  exact Fz.v
 refine sk ?_
 refine sg ?_
 obtain ⟨hc1, h⟩ := chk_some h
 refine ⟨_, wrap_of_u8 (k := .i64) (by decide) _, (by decide), _, rfl, (Or.inl ⟨hc1, ?_⟩)⟩
 refine wE [(0, .s (mC p_disks)), (1, .s (mD p_chains)), (7, vb x1), (8, vi (1 + (Int.tmod (p_by.toNat : Int) (16))))] Q4 ?_
 refine sg ?_
 obtain ⟨x4, hx4, h⟩ := bindS h
 refine CallOk.call (w_scrub_Plan hx4) (LeL.refl _) ?_
 refine wE [(0, .s (mC p_disks)), (1, .s (mD p_chains)), (7, vb x1), (8, vi (1 + (Int.tmod (p_by.toNat : Int) (16)))), (9, .s (mB x4.1)), (10, .s (mU x4.2))] Q6 ?_
 refine sg ?_
 obtain ⟨x5, hx5, h⟩ := bindS h
 refine CallOk.call (w_mend_Order hx5) (LeL.refl _) ?_
 obtain ⟨x6, hx6, h⟩ := bindS h
 refine CallOk.call (w_mend_Steps hx6) (LeL.refl _) ?_
 refine wE [(0, .s (mC p_disks)), (1, .s (mD p_chains)), (7, vb x1), (8, vi (1 + (Int.tmod (p_by.toNat : Int) (16)))), (10, .s (mU x4.2)), (11, vi x6)] Q6 ?_
 refine sq ?_
 obtain ⟨v2, hv2, h⟩ := bindS h
 refine Ok.seqw ⟨Cat.tab [(0, .s (mC p_disks)), (1, .s (mD p_chains)), (7, vb x1), (8, vi (1 + (Int.tmod (p_by.toNat : Int) (16)))), (10, .s (mU x4.2)), (11, vi x6), (60, vb v2)], []⟩ ?_ ?_
 ·refine rg ?_
  obtain ⟨c3, hg4, hv2⟩ := bindS hv2
  refine Br.itf hg4 (fun hb hg4 => ?_) fun hb hg4 => ?_
  ·cases hg4
   cases hv2
   exact wt Q7 Q0 rfl
  cases hg4
  cases hv2
  exact wt Q7 Q0 rfl
 refine cn 60 (v2) rfl h (fun hb h => ?_) fun hb h => ?_
 ·refine sg ?_
  refine wE [(6, vb false)] Q1 ?_
  refine rt ?_
  cases h
  exact Fz.v
 refine sk ?_
 refine sg ?_
 refine wE [(0, .s (mC p_disks)), (1, .s (mD p_chains)), (7, vb x1), (8, vi (1 + (Int.tmod (p_by.toNat : Int) (16)))), (10, .s (mU x4.2)), (11, vi x6), (12, .s (mC p_disks))] Q7 ?_
 refine sg ?_
 refine Or.inl ?_
 refine wE [(0, .s (mC p_disks)), (1, .s (mD p_chains)), (7, vb x1), (8, vi (1 + (Int.tmod (p_by.toNat : Int) (16)))), (10, .s (mU x4.2)), (11, vi x6), (12, .s (mC p_disks)), (13, .s (mB ([] : List api_Job)))] Q8 ?_
 refine Ok.seqj (fun v3 => ⟨Cat.tab [(0, .s (mC p_disks)), (1, .s (mD p_chains)), (7, vb x1), (10, .s (mU x4.2)), (12, .s (mC v3.1)), (13, .s (mB v3.2))], []⟩) (fun v3 => law28_MendWhole_J1 p_chains x4 p_disks x1 v3 = some r) ?_ ?_
 ·refine sg ?_
  refine wE [(0, .s (mC p_disks)), (1, .s (mD p_chains)), (7, vb x1), (8, vi (1 + (Int.tmod (p_by.toNat : Int) (16)))), (10, .s (mU x4.2)), (11, vi x6), (12, .s (mC p_disks)), (13, .s (mB ([] : List api_Job))), (14, vi (0))] ⟨lr, Q8⟩ ?_
  refine bl ?_
  refine Ok.loop (fun (s1 : (List api_Disk) × (List api_Job) × Int) => ⟨Cat.tab [(0, .s (mC p_disks)), (1, .s (mD p_chains)), (7, vb x1), (8, vi (1 + (Int.tmod (p_by.toNat : Int) (16)))), (10, .s (mU x4.2)), (11, vi x6), (12, .s (mC s1.1)), (13, .s (mB s1.2.1)), (14, vi s1.2.2)], []⟩) (law28_MendWhole_B1 x6 p_chains p_by p_disks x4 x1) (s0 := (p_disks, ([] : List api_Job), 0)) h (wt ⟨lr, Q8⟩ Q0 rfl) ?_
  intro s1 y1 hB1 hy1
  unfold law28_MendWhole_B1 at hB1
  refine sq ?_
  refine sg ?_
  refine wE [(0, .s (mC p_disks)), (1, .s (mD p_chains)), (7, vb x1), (8, vi (1 + (Int.tmod (p_by.toNat : Int) (16)))), (10, .s (mU x4.2)), (11, vi x6), (12, .s (mC s1.1)), (13, .s (mB s1.2.1)), (14, vi s1.2.2), (65, vb (decide (s1.2.2 < x6)))] ⟨lr, lr, Q8⟩ ?_
  refine cn 65 (decide (s1.2.2 < x6)) rfl hB1 (fun hb hB1 => ?_) fun hb hB1 => ?_
  ·refine sk ?_
   refine sq ?_
   refine bl ?_
   refine sg ?_
   obtain ⟨x7, hx7, hB1⟩ := bindS hB1
   refine CallOk.call (w_mend_Round hx7) (LeL.refl _) ?_
   refine wE [(0, .s (mC p_disks)), (1, .s (mD p_chains)), (7, vb x1), (8, vi (1 + (Int.tmod (p_by.toNat : Int) (16)))), (10, .s (mU x4.2)), (11, vi x6), (14, vi s1.2.2), (15, .s (mC x7.1)), (16, .s (mB x7.2.1))] ⟨lr, Q8⟩ ?_
   refine sq ?_
   obtain ⟨v4, hv4, hB1⟩ := bindS hB1
   refine Ok.seqw ⟨Cat.tab [(0, .s (mC p_disks)), (1, .s (mD p_chains)), (7, vb x1), (8, vi (1 + (Int.tmod (p_by.toNat : Int) (16)))), (10, .s (mU x4.2)), (11, vi x6), (14, vi s1.2.2), (15, .s (mC x7.1)), (16, .s (mB x7.2.1)), (86, vb v4)], []⟩ ?_ ?_
   ·refine rg ?_
    refine ⟨_, List.length_map _, fun _ => ⟨_, List.length_map _, fun _ => ?_⟩⟩
    obtain ⟨c4, hg5, hv4⟩ := bindS hv4
    refine Br.itf hg5 (fun hb hg5 => ?_) fun hb hg5 => ?_
    ·cases hg5
     cases hv4
     exact wt ⟨lr, lr, Q8⟩ Q0 rfl
    obtain ⟨x8, hx8, hg5⟩ := bindS hg5
    refine CallOk.call (w_ref28_Right hx8) (LeL.refl _) ?_
    cases hg5
    cases hv4
    exact wt ⟨lr, lr, Q8⟩ Q0 rfl
   refine cn 86 (v4) rfl hB1 (fun hb hB1 => ?_) fun hb hB1 => ?_
   ·refine sg ?_
    refine wE [(6, vb false)] Q1 ?_
    refine rt ?_
    have hB1 := out_ret hB1 hy1
    cases hB1
    exact Fz.v
   refine sk ?_
   refine sg ?_
   refine wE [(0, .s (mC p_disks)), (1, .s (mD p_chains)), (7, vb x1), (8, vi (1 + (Int.tmod (p_by.toNat : Int) (16)))), (10, .s (mU x4.2)), (11, vi x6), (12, .s (mC x7.1)), (14, vi s1.2.2), (16, .s (mB x7.2.1))] ⟨lr, Q8⟩ ?_
   refine rg ?_
   refine wE [(0, .s (mC p_disks)), (1, .s (mD p_chains)), (7, vb x1), (8, vi (1 + (Int.tmod (p_by.toNat : Int) (16)))), (10, .s (mU x4.2)), (11, vi x6), (12, .s (mC x7.1)), (13, .s (mB x7.2.1)), (14, vi s1.2.2)] ⟨lr, Q8⟩ ?_
   refine rg ?_
   obtain ⟨hc2, hB1⟩ := chk_some hB1
   refine (Or.inl ⟨hc2, ?_⟩)
   exact ⟨_, sj hB1, wt ⟨lr, Q8⟩ Q0 rfl⟩
  refine xt ?_
  have hB1 := out_ret hB1 hy1
  exact ⟨_, hB1, wt Q6 Q0 rfl⟩
 intro v3 h
 unfold law28_MendWhole_J1 at h
 refine sg ?_
 obtain ⟨x9, hx9, h⟩ := bindS h
 refine CallOk.call (w_scrub_Plan hx9) (LeL.refl _) ?_
 refine wE [(0, .s (mC p_disks)), (1, .s (mD p_chains)), (7, vb x1), (10, .s (mU x4.2)), (12, .s (mC v3.1)), (13, .s (mB v3.2)), (18, .s (mB x9.1)), (19, .s (mU x9.2))] Q8 ?_
 refine sq ?_
 obtain ⟨v5, hv5, h⟩ := bindS h
 refine Ok.seqw ⟨Cat.tab [(0, .s (mC p_disks)), (1, .s (mD p_chains)), (7, vb x1), (12, .s (mC v3.1)), (109, vb v5)], []⟩ ?_ ?_
 ·refine rg ?_
  refine ⟨_, List.length_map _, fun _ => ?_⟩
  obtain ⟨c5, hg6, hv5⟩ := bindS hv5
  refine Br.itf hg6 (fun hb hg6 => ?_) fun hb hg6 => ?_
  ·cases hg6
   obtain ⟨c6, hg7, hv5⟩ := bindS hv5
   replace hg7 := iteT hg7
   cases hg7
   cases hv5
   exact wt Q5 Q0 rfl
  refine ⟨_, List.length_map _, fun _ => ?_⟩
  cases hg6
  obtain ⟨c6, hg8, hv5⟩ := bindS hv5
  refine Br.itf hg8 (fun hb hg8 => ?_) fun hb hg8 => ?_
  ·cases hg8
   cases hv5
   exact wt Q5 Q0 rfl
  refine ⟨_, List.length_map _, fun _ => ⟨_, List.length_map _, fun _ => ?_⟩⟩
  cases hg8
  cases hv5
  exact wt Q5 Q0 rfl
 refine cn 109 (v5) rfl h (fun hb h => ?_) fun hb h => ?_
 ·refine sg ?_
  refine wE [(6, vb false)] Q1 ?_
  refine rt ?_
  cases h
  exact Fz.v
 refine sk ?_
 refine Ok.seqj (fun v6 => ⟨Cat.tab [(7, vb x1)], []⟩) (fun v6 => law28_MendWhole_J2 x1 v6 = some r) ?_ ?_
 ·refine sg ?_
  refine wE [(0, .s (mC p_disks)), (1, .s (mD p_chains)), (7, vb x1), (12, .s (mC v3.1)), (20, vi (0))] Q5 ?_
  refine bl ?_
  refine Ok.loop (fun (s2 : Int) => ⟨Cat.tab [(0, .s (mC p_disks)), (1, .s (mD p_chains)), (7, vb x1), (12, .s (mC v3.1)), (20, vi s2)], []⟩) (law28_MendWhole_B2 p_chains p_disks v3 x1) (s0 := 0) h (wt Q5 Q0 rfl) ?_
  intro s2 y2 hB2 hy2
  unfold law28_MendWhole_B2 at hB2
  refine sq ?_
  refine sg ?_
  refine ⟨_, List.length_map _, fun _ => ?_⟩
  refine wE [(0, .s (mC p_disks)), (1, .s (mD p_chains)), (7, vb x1), (12, .s (mC v3.1)), (20, vi s2), (113, vb (decide (s2 < (p_chains.length : Int))))] Q6 ?_
  refine cn 113 (decide (s2 < (p_chains.length : Int))) rfl hB2 (fun hb hB2 => ?_) fun hb hB2 => ?_
  ·refine sk ?_
   refine Ok.seqj (fun v7 => ⟨Cat.tab [(0, .s (mC p_disks)), (1, .s (mD p_chains)), (7, vb x1), (12, .s (mC v3.1)), (20, vi s2)], []⟩) (fun v7 => law28_MendWhole_J3 s2 v7 = some y2) ?_ ?_
   ·refine bl ?_
    refine sg ?_
    obtain ⟨x10, hx10, hB2⟩ := bindS hB2
    obtain ⟨x11, hx11, hB2⟩ := bindS hB2
    refine ⟨_, idx_nat hx10, _, idx_row hx10, _, rfl, ?_⟩
    refine CallOk.call (w_ref27_Intact hx11) (LeL.refl _) ?_
    refine wE [(0, .s (mC p_disks)), (1, .s (mD p_chains)), (7, vb x1), (12, .s (mC v3.1)), (20, vi s2), (21, .s (mU x11))] Q6 ?_
    refine sg ?_
    refine wE [(0, .s (mC p_disks)), (1, .s (mD p_chains)), (7, vb x1), (12, .s (mC v3.1)), (20, vi s2), (21, .s (mU x11)), (22, vi (0))] Q7 ?_
    refine bl ?_
    refine Ok.loop (fun (s3 : Int) => ⟨Cat.tab [(0, .s (mC p_disks)), (1, .s (mD p_chains)), (7, vb x1), (12, .s (mC v3.1)), (20, vi s2), (21, .s (mU x11)), (22, vi s3)], []⟩) (law28_MendWhole_B3 p_chains s2 p_disks v3 x11) (s0 := 0) hB2 (wt Q7 Q0 rfl) ?_
    intro s3 y3 hB3 hy3
    unfold law28_MendWhole_B3 at hB3
    refine sq ?_
    refine sg ?_
    obtain ⟨x12, hx12, hB3⟩ := bindS hB3
    refine ⟨_, idx_nat hx12, _, idx_row hx12, _, rfl, _, List.length_map _, fun _ => ?_⟩
    refine wE [(0, .s (mC p_disks)), (1, .s (mD p_chains)), (7, vb x1), (12, .s (mC v3.1)), (20, vi s2), (21, .s (mU x11)), (22, vi s3), (129, vb (decide (s3 < (x12.Servers.length : Int))))] Q8 ?_
    refine cn 129 (decide (s3 < (x12.Servers.length : Int))) rfl hB3 (fun hb hB3 => ?_) fun hb hB3 => ?_
    ·refine sk ?_
     refine sq ?_
     refine bl ?_
     refine sg ?_
     obtain ⟨x13, hx13, hB3⟩ := bindS hB3
     obtain ⟨x14, hx14, hB3⟩ := bindS hB3
     refine ⟨_, idx_nat hx13, _, idx_row hx13, _, rfl, _, idx_nat hx14, _, idx_row hx14, _, rfl, ?_⟩
     refine wE [(0, .s (mC p_disks)), (1, .s (mD p_chains)), (7, vb x1), (12, .s (mC v3.1)), (20, vi s2), (21, .s (mU x11)), (22, vi s3), (23, vi x14)] Q8 ?_
     refine sg ?_
     obtain ⟨x15, hx15, hB3⟩ := bindS hB3
     obtain ⟨x16, hx16, hB3⟩ := bindS hB3
     refine ⟨_, idx_nat hx15, _, idx_row hx15, _, rfl, ?_⟩
     refine CallOk.call (w_ref27_Stands hx16) (LeL.refl _) ?_
     refine wE [(0, .s (mC p_disks)), (1, .s (mD p_chains)), (7, vb x1), (12, .s (mC v3.1)), (20, vi s2), (21, .s (mU x11)), (22, vi s3), (23, vi x14), (24, vi x16)] ⟨lr, Q8⟩ ?_
     refine sg ?_
     obtain ⟨x17, hx17, hB3⟩ := bindS hB3
     obtain ⟨x18, hx18, hB3⟩ := bindS hB3
     refine ⟨_, idx_nat hx17, _, idx_row hx17, _, rfl, ?_⟩
     refine CallOk.call (w_ref27_Stands hx18) (LeL.refl _) ?_
     refine wE [(0, .s (mC p_disks)), (1, .s (mD p_chains)), (7, vb x1), (12, .s (mC v3.1)), (20, vi s2), (21, .s (mU x11)), (22, vi s3), (24, vi x16), (25, vi x18)] ⟨lr, Q8⟩ ?_
     obtain ⟨v8, hv8, hB3⟩ := bindS hB3
     refine Ok.seqw ⟨Cat.tab [(0, .s (mC p_disks)), (1, .s (mD p_chains)), (7, vb x1), (12, .s (mC v3.1)), (20, vi s2), (21, .s (mU x11)), (22, vi s3), (181, vb v8)], []⟩ ?_ ?_
     ·refine rg ?_
      refine ⟨_, List.length_map _, fun _ => ?_⟩
      obtain ⟨c7, hg9, hv8⟩ := bindS hv8
      refine Br.ite hg9 (fun hb hg9 => ?_) fun hb hg9 => ?_
      ·cases hg9
       obtain ⟨c8, hg10, hv8⟩ := bindS hv8
       refine Br.ite hg10 (fun hb hg10 => ?_) fun hb hg10 => ?_
       ·cases hg10
        obtain ⟨c10, hg11, hv8⟩ := bindS hv8
        refine Br.itf hg11 (fun hb hg11 => ?_) fun hb hg11 => ?_
        ·cases hg11
         obtain ⟨c11, hg12, hv8⟩ := bindS hv8
         replace hg12 := iteT hg12
         cases hg12
         cases hv8
         exact wt Q8 Q0 rfl
        refine ⟨_, List.length_map _, fun _ => ?_⟩
        obtain ⟨c9, hg13, hg11⟩ := bindS hg11
        refine Br.ite hg13 (fun hb hg13 => ?_) fun hb hg13 => ?_
        ·cases hg13
         cases hg11
         obtain ⟨c11, hg14, hv8⟩ := bindS hv8
         refine Br.itf hg14 (fun hb hg14 => ?_) fun hb hg14 => ?_
         ·cases hg14
          cases hv8
          exact wt Q8 Q0 rfl
         cases hg14
         cases hv8
         exact wt Q8 Q0 rfl
        cases hg13
        cases hg11
        obtain ⟨c11, hg15, hv8⟩ := bindS hv8
        replace hg15 := iteF hg15
        cases hg15
        cases hv8
        exact wt Q8 Q0 rfl
       cases hg10
       obtain ⟨c10, hg16, hv8⟩ := bindS hv8
       replace hg16 := iteF hg16
       refine ⟨_, List.length_map _, fun _ => ?_⟩
       obtain ⟨c9, hg17, hg16⟩ := bindS hg16
       refine Br.ite hg17 (fun hb hg17 => ?_) fun hb hg17 => ?_
       ·cases hg17
        cases hg16
        obtain ⟨c11, hg18, hv8⟩ := bindS hv8
        refine Br.itf hg18 (fun hb hg18 => ?_) fun hb hg18 => ?_
        ·cases hg18
         cases hv8
         exact wt Q8 Q0 rfl
        cases hg18
        cases hv8
        exact wt Q8 Q0 rfl
       cases hg17
       cases hg16
       obtain ⟨c11, hg19, hv8⟩ := bindS hv8
       replace hg19 := iteF hg19
       cases hg19
       cases hv8
       exact wt Q8 Q0 rfl
      cases hg9
      obtain ⟨c8, hg20, hv8⟩ := bindS hv8
      replace hg20 := iteF hg20
      cases hg20
      obtain ⟨c10, hg21, hv8⟩ := bindS hv8
      replace hg21 := iteF hg21
      refine ⟨_, List.length_map _, fun _ => ?_⟩
      obtain ⟨c9, hg22, hg21⟩ := bindS hg21
      refine Br.ite hg22 (fun hb hg22 => ?_) fun hb hg22 => ?_
      ·cases hg22
       cases hg21
       obtain ⟨c11, hg23, hv8⟩ := bindS hv8
       refine Br.itf hg23 (fun hb hg23 => ?_) fun hb hg23 => ?_
       ·cases hg23
        cases hv8
        exact wt Q8 Q0 rfl
       cases hg23
       cases hv8
       exact wt Q8 Q0 rfl
      cases hg22
      cases hg21
      obtain ⟨c11, hg24, hv8⟩ := bindS hv8
      replace hg24 := iteF hg24
      cases hg24
      cases hv8
      exact wt Q8 Q0 rfl
     refine cn 181 (v8) rfl hB3 (fun hb hB3 => ?_) fun hb hB3 => ?_
     ·refine sg ?_
      refine wE [(6, vb false)] Q1 ?_
      refine rt ?_
      have hB3 := out_ret hB3 hy3
      have hB3 := out_ret hB3 hy2
      cases hB3
      exact Fz.v
     refine sk ?_
     refine rg ?_
     obtain ⟨hc3, hB3⟩ := chk_some hB3
     refine (Or.inl ⟨hc3, ?_⟩)
     exact ⟨_, sj hB3, wt Q7 Q0 rfl⟩
    refine xt ?_
    have hB3 := out_ret hB3 hy3
    exact ⟨_, hB3, wt Q5 Q0 rfl⟩
   intro v7 hB2
   unfold law28_MendWhole_J3 at hB2
   refine rg ?_
   obtain ⟨hc4, hB2⟩ := chk_some hB2
   refine (Or.inl ⟨hc4, ?_⟩)
   exact ⟨_, sj hB2, wt Q5 Q0 rfl⟩
  refine xt ?_
  have hB2 := out_ret hB2 hy2
  exact ⟨_, hB2, wt Q1 Q0 rfl⟩
 intro v6 h
 unfold law28_MendWhole_J2 at h
 refine sg ?_
 refine wE [(6, vb x1)] Q1 ?_
 refine rt ?_
 cases h
 exact Fz.v
end Go.Proofs
