/- The walks of this seat beside the plain programs, part 4. No condition. -/
import Derived.Test.YtcbpphgndncebabGreatXMendDoesEn
import Derived.Test.YtcbpphgndncebabGreatXMendDoesWk0
import Derived.Test.YtcbpphgndncebabGreatXMendDoesWk1
import Derived.Test.YtcbpphgndncebabGreatXMendDoesWk2
import Derived.Test.YtcbpphgndncebabGreatXMendDoesWk3
namespace Go.Proofs
set_option linter.all false
open Go Go.Cat
variable [M : Mono]
set_option maxRecDepth 100000
theorem w_scrubN5 {p_c} {p_own} {p_s} {r} (h : scrub_next p_c p_own p_s = some r) : Pure Tryz.prog 41 [(.a [(vi p_c.Id), (vi p_c.Ver), (.s (mU p_c.Servers))]), (.s (mU p_own)), (vi p_s)] (vi r) := by
 refine po Tryz.tok 30 Tryz.func41 (by kernel_rfl) rfl rfl rfl ?_
 unfold scrub_next at h
 refine wE [(0, .a [vi p_c.Id, vi p_c.Ver, .s (mU p_c.Servers)]), (1, .s (mU p_own)), (2, vi p_s)] Q3 ?_
 refine sg ?_
 refine wT [(1, .s (mU p_own)), (2, vi p_s), (3, .b 3 0)] [(3, .box [vi p_c.Id, vi p_c.Ver, .s (mU p_c.Servers)])] Q3 J1 rfl ?_
 refine sg ?_
 obtain ⟨x1, hx1, h⟩ := bindS h
 refine ⟨_, rfl, ?_⟩
 refine CallOk.call (w_slicesN6 hx1) (LeL.refl _) ?_
 refine ⟨_, rfl, ?_⟩
 refine wT [(1, .s (mU p_own)), (3, .b 3 0), (7, .b 7 0)] [(3, .box [vi p_c.Id, vi p_c.Ver, .s (mU p_c.Servers)]), (7, .box [vi x1])] Q3 J2 rfl ?_
 refine sg ?_
 refine wT [(1, .s (mU p_own)), (8, .c (.func 68) [] [.b 3 0, .b 7 0])] [(3, .box [vi p_c.Id, vi p_c.Ver, .s (mU p_c.Servers)]), (7, .box [vi x1])] Q2 J2 rfl ?_
 refine sq ?_
 refine sg ?_
 obtain ⟨x2, hx2, h⟩ := bindS h
 refine CallOk.borrow (w_slicesN5 hx2) (.cons Fz.s (.cons (Fz.c .nil (.cons (Fz.b rfl rfl) (.cons (Fz.b rfl rfl) .nil))) (.nil))) rfl ?_
 refine wE [(1, .s (mU p_own)), (9, vi x2)] Q2 ?_
 refine sg ?_
 refine wE [(1, .s (mU p_own)), (9, vi x2), (19, vb (decide (x2 ≥ 0)))] Q3 ?_
 refine cn 19 (decide (x2 ≥ 0)) rfl h (fun hb h => ?_) fun hb h => ?_
 ·refine sg ?_
  obtain ⟨x3, hx3, h⟩ := bindS h
  refine ⟨_, idx_nat hx3, _, idx_row hx3, _, rfl, ?_⟩
  refine wE [(6, vi x3)] Q1 ?_
  refine rt ?_
  cases h
  exact Fz.v
 refine sk ?_
 refine sg ?_
 obtain ⟨hc1, h⟩ := chk_some h
 obtain ⟨x4, hx4, h⟩ := bindS h
 refine ⟨_, List.length_map _, fun _ => (Or.inl ⟨hc1, _, idx_nat hx4, _, idx_row hx4, _, rfl, ?_⟩)⟩
 refine wE [(6, vi x4)] Q1 ?_
 refine rt ?_
 cases h
 exact Fz.v
theorem w_scrubN3 {p_disks} {p_l} {r} (h : scrub_Plan p_disks p_l = some r) : Pure Tryz.prog 15 [(.s (mC p_disks)), (.s (mD p_l))] (.t [(.s (mA r.1)), (.s (mU r.2))]) := by
 refine po Tryz.tok 84 Tryz.func15 (by kernel_rfl) rfl rfl rfl ?_
 unfold scrub_Plan at h
 refine wE [(0, .s (mC p_disks)), (1, .s (mD p_l))] Q2 ?_
 refine sg ?_
 refine wE [(0, .s (mC p_disks)), (1, .s (mD p_l))] Q2 ?_
 refine sg ?_
 refine wE [(0, .s (mC p_disks)), (1, .s (mD p_l)), (6, .v (.slice none 0 0))] Q3 ?_
 refine sg ?_
 refine wE [(0, .s (mC p_disks)), (1, .s (mD p_l)), (6, .v (.slice none 0 0)), (7, .v (.slice none 0 0))] Q4 ?_
 obtain ⟨v1, hv1, h⟩ := bindS h
 refine Ok.seqw ⟨Cat.tab [(6, .o 79), (7, .o 33)], [(79, .own 47 6 (mA v1.1)), (33, .own 3 1 (mU v1.2))]⟩ ?_ ?_
 ·refine sg ?_
  refine ⟨_, List.length_map _, fun _ => ?_⟩
  refine wE [(0, .s (mC p_disks)), (6, .v (.slice none 0 0)), (7, .v (.slice none 0 0)), (17, .s (mD p_l)), (18, vi (p_l.length : Int)), (19, vi (0))] Q6 ?_
  refine bl ?_
  refine Ok.loop (fun (s1 : Int × (List api_Job) × (List Int)) => ⟨Cat.tab [(0, .s (mC p_disks)), (6, .o 79), (7, .o 33), (17, .s (mD p_l)), (18, vi (p_l.length : Int)), (19, vi s1.1)], [(79, .own 47 6 (mA s1.2.1)), (33, .own 3 1 (mU s1.2.2))]⟩) (scrubN6 p_l p_disks) (s0 := (0, [], [])) hv1 ((Wk.own0 (t := 6) (id := 79) (E := 47) (K := 6) rfl rfl).trans ((Wk.own0 (t := 7) (id := 33) (E := 3) (K := 1) rfl rfl).trans (wt Q6 ⟨⟨_, rfl, .refl _⟩, ⟨_, rfl, .refl _⟩, Q0⟩ rfl))) ?_
  intro s1 y1 hB1 hy1
  unfold scrubN6 at hB1
  refine sg ?_
  refine wT [(0, .s (mC p_disks)), (6, .o 79), (7, .o 33), (17, .s (mD p_l)), (18, vi (p_l.length : Int)), (19, vi s1.1), (20, vb (decide (s1.1 < (p_l.length : Int))))] [(79, .own 47 6 (mA s1.2.1)), (33, .own 3 1 (mU s1.2.2))] Q7 J2 rfl ?_
  refine sq ?_
  refine cn 20 (decide (s1.1 < (p_l.length : Int))) rfl hB1 (fun hb hB1 => ?_) fun hb hB1 => ?_
  ·refine sk ?_
   obtain ⟨v2, hv2, hB1⟩ := bindS hB1
   refine Ok.seqw ⟨Cat.tab [(0, .s (mC p_disks)), (6, .o 79), (7, .o 33), (17, .s (mD p_l)), (18, vi (p_l.length : Int)), (19, vi s1.1)], [(79, .own 47 6 (mA v2.1)), (33, .own 3 1 (mU v2.2))]⟩ ?_ ?_
   ·refine bl ?_
    refine sg ?_
    obtain ⟨x1, hx1, hv2⟩ := bindS hv2
    refine ⟨_, idx_nat hx1, _, idx_row hx1, _, rfl, _, rfl, ?_⟩
    refine wT [(0, .s (mC p_disks)), (6, .o 79), (7, .o 33), (9, .b 9 0), (17, .s (mD p_l)), (18, vi (p_l.length : Int)), (19, vi s1.1)] [(79, .own 47 6 (mA s1.2.1)), (33, .own 3 1 (mU s1.2.2)), (9, .box [vi x1.Id, vi x1.Ver, .s (mU x1.Servers)])] Q7 J3 rfl ?_
    refine sg ?_
    obtain ⟨x2, hx2, hv2⟩ := bindS hv2
    refine ⟨_, rfl, ?_⟩
    refine CallOk.call (w_scrubN2 hx2) (LeL.refl _) ?_
    refine wT [(0, .s (mC p_disks)), (6, .o 79), (7, .o 33), (9, .b 9 0), (10, .s (mU x2)), (17, .s (mD p_l)), (18, vi (p_l.length : Int)), (19, vi s1.1)] [(79, .own 47 6 (mA s1.2.1)), (33, .own 3 1 (mU s1.2.2)), (9, .box [vi x1.Id, vi x1.Ver, .s (mU x1.Servers)])] Q8 J3 rfl ?_
    refine sq ?_
    refine sg ?_
    refine ⟨_, List.length_map _, fun _ => ?_⟩
    refine wT [(0, .s (mC p_disks)), (6, .o 79), (7, .o 33), (9, .b 9 0), (10, .s (mU x2)), (17, .s (mD p_l)), (18, vi (p_l.length : Int)), (19, vi s1.1), (28, vb ((x2.length : Int) == 0))] [(79, .own 47 6 (mA s1.2.1)), (33, .own 3 1 (mU s1.2.2)), (9, .box [vi x1.Id, vi x1.Ver, .s (mU x1.Servers)])] ⟨lr, Q8⟩ J3 rfl ?_
    refine cn 28 ((x2.length : Int) == 0) rfl hv2 (fun hb hv2 => ?_) fun hb hv2 => ?_
    ·refine sg ?_
     obtain ⟨hc1, hv2⟩ := chk_some hv2
     refine ⟨_, rfl, Or.inl ⟨rowsLen_map (f := Go.Cat.encI) (n := 1) (fun _ => rfl) ([x1.Id]), app_b2 (f := Go.Cat.encI) (l := s1.2.2) (l' := [x1.Id]) hc1, _, (List.map_append (f := Go.Cat.encI) (l₁ := s1.2.2) (l₂ := [x1.Id])).symm, ?_⟩⟩
     refine wT [(0, .s (mC p_disks)), (6, .o 79), (7, .o 33), (17, .s (mD p_l)), (18, vi (p_l.length : Int)), (19, vi s1.1)] [(79, .own 47 6 (mA s1.2.1)), (33, .own 3 1 (mU (s1.2.2 ++ [x1.Id])))] Q6 J2 rfl ?_
     refine xt ?_
     cases hv2
     exact wt Q6 J2 rfl
    refine sk ?_
    refine sg ?_
    obtain ⟨x3, hx3, hv2⟩ := bindS hv2
    refine ⟨_, rfl, ?_⟩
    refine CallOk.own (D := 36) (wo_scrubN2 hx3) (LeL.refl _) rfl ?_
    refine wT [(0, .s (mC p_disks)), (6, .o 79), (7, .o 33), (9, .b 9 0), (10, .s (mU x2)), (11, .o 36), (17, .s (mD p_l)), (18, vi (p_l.length : Int)), (19, vi s1.1)] [(79, .own 47 6 (mA s1.2.1)), (33, .own 3 1 (mU s1.2.2)), (9, .box [vi x1.Id, vi x1.Ver, .s (mU x1.Servers)]), (36, .own 68 3 (mE x3))] ⟨lr, Q8⟩ J4 rfl ?_
    refine sg ?_
    obtain ⟨x4, hx4, hv2⟩ := bindS hv2
    refine CallOk.chgLe (id := 36) (pchg_sortF (E := 68) (enc := c_api_Find) Tryz.says38 Tryz.enters38 (fun _ => rfl) (fun _ => rfl) (fun _ _ _ h => w_scrubN4 (M := Mono.yes) h) (enters_of Tryz.func39 (by kernel_rfl) rfl) hx4) rfl (.refl _) rfl (.cons Lr.o (.cons (Lr.imm rfl) .nil)) ?_
    rintro _ _ ⟨rfl, rfl⟩
    refine wT [(0, .s (mC p_disks)), (6, .o 79), (7, .o 33), (9, .b 9 0), (10, .s (mU x2)), (11, .o 36), (17, .s (mD p_l)), (18, vi (p_l.length : Int)), (19, vi s1.1)] [(79, .own 47 6 (mA s1.2.1)), (33, .own 3 1 (mU s1.2.2)), (9, .box [vi x1.Id, vi x1.Ver, .s (mU x1.Servers)]), (36, .own 68 3 (mE x4))] ⟨lr, Q8⟩ J4 rfl ?_
    refine sg ?_
    refine ⟨_, List.length_map _, fun _ => ?_⟩
    refine wT [(0, .s (mC p_disks)), (6, .o 79), (7, .o 33), (9, .b 9 0), (10, .s (mU x2)), (17, .s (mD p_l)), (18, vi (p_l.length : Int)), (19, vi s1.1), (39, .o 36), (40, vi (x4.length : Int)), (41, vi (0))] [(79, .own 47 6 (mA s1.2.1)), (33, .own 3 1 (mU s1.2.2)), (9, .box [vi x1.Id, vi x1.Ver, .s (mU x1.Servers)]), (36, .own 68 3 (mE x4))] ⟨lr, lr, lr, Q8⟩ J4 rfl ?_
    refine bl ?_
    refine Ok.loop (fun (s2 : Int × (List api_Job)) => ⟨Cat.tab [(0, .s (mC p_disks)), (6, .o 79), (7, .o 33), (9, .b 9 0), (10, .s (mU x2)), (17, .s (mD p_l)), (18, vi (p_l.length : Int)), (19, vi s1.1), (39, .o 36), (40, vi (x4.length : Int)), (41, vi s2.1)], [(79, .own 47 6 (mA s2.2)), (33, .own 3 1 (mU s1.2.2)), (9, .box [vi x1.Id, vi x1.Ver, .s (mU x1.Servers)]), (36, .own 68 3 (mE x4))]⟩) (scrubN7 x4 x1 x2 p_disks s1) (s0 := (0, s1.2.1)) hv2 (wt ⟨lr, lr, lr, Q8⟩ ⟨⟨_, rfl, .refl _⟩, ⟨_, rfl, .refl _⟩, ⟨_, rfl, .refl _⟩, ⟨_, rfl, .refl _⟩, Q0⟩ rfl) ?_
    intro s2 y2 hB2 hy2
    unfold scrubN7 at hB2
    refine sg ?_
    refine wT [(0, .s (mC p_disks)), (6, .o 79), (7, .o 33), (9, .b 9 0), (10, .s (mU x2)), (17, .s (mD p_l)), (18, vi (p_l.length : Int)), (19, vi s1.1), (39, .o 36), (40, vi (x4.length : Int)), (41, vi s2.1), (42, vb (decide (s2.1 < (x4.length : Int))))] [(79, .own 47 6 (mA s2.2)), (33, .own 3 1 (mU s1.2.2)), (9, .box [vi x1.Id, vi x1.Ver, .s (mU x1.Servers)]), (36, .own 68 3 (mE x4))] ⟨lr, lr, lr, lr, Q8⟩ J4 rfl ?_
    refine sq ?_
    refine cn 42 (decide (s2.1 < (x4.length : Int))) rfl hB2 (fun hb hB2 => ?_) fun hb hB2 => ?_
    ·refine sk ?_
     obtain ⟨v3, hv3, hB2⟩ := bindS hB2
     refine Ok.seqw ⟨Cat.tab [(0, .s (mC p_disks)), (6, .o 79), (7, .o 33), (9, .b 9 0), (10, .s (mU x2)), (17, .s (mD p_l)), (18, vi (p_l.length : Int)), (19, vi s1.1), (39, .o 36), (40, vi (x4.length : Int)), (41, vi s2.1)], [(79, .own 47 6 (mA v3)), (33, .own 3 1 (mU s1.2.2)), (9, .box [vi x1.Id, vi x1.Ver, .s (mU x1.Servers)]), (36, .own 68 3 (mE x4))]⟩ ?_ ?_
     ·refine bl ?_
      refine sg ?_
      obtain ⟨x5, hx5, hv3⟩ := bindS hv3
      refine ⟨_, idx_nat hx5, idx_ltm hx5, _, idx_row hx5, rfl, _, rfl, _, rfl, ?_⟩
      refine wT [(0, .s (mC p_disks)), (6, .o 79), (7, .o 33), (9, .b 9 0), (10, .s (mU x2)), (13, .b 13 0), (17, .s (mD p_l)), (18, vi (p_l.length : Int)), (19, vi s1.1), (39, .o 36), (40, vi (x4.length : Int)), (41, vi s2.1)] [(79, .own 47 6 (mA s2.2)), (33, .own 3 1 (mU s1.2.2)), (9, .box [vi x1.Id, vi x1.Ver, .s (mU x1.Servers)]), (13, .box [vi x5.Id, vi x5.Server, vi x5.What]), (36, .own 68 3 (mE x4))] ⟨lr, lr, lr, lr, Q8⟩ ⟨hr, J4⟩ rfl ?_
      refine sg ?_
      refine ⟨_, rfl, ?_⟩
      refine wT [(0, .s (mC p_disks)), (6, .o 79), (7, .o 33), (9, .b 9 0), (10, .s (mU x2)), (13, .b 13 0), (17, .s (mD p_l)), (18, vi (p_l.length : Int)), (19, vi s1.1), (39, .o 36), (40, vi (x4.length : Int)), (41, vi s2.1), (47, vb (x5.What != 1))] [(79, .own 47 6 (mA s2.2)), (33, .own 3 1 (mU s1.2.2)), (9, .box [vi x1.Id, vi x1.Ver, .s (mU x1.Servers)]), (13, .box [vi x5.Id, vi x5.Server, vi x5.What]), (36, .own 68 3 (mE x4))] ⟨lr, lr, lr, lr, lr, Q8⟩ ⟨hr, J4⟩ rfl ?_
      refine cn 47 (x5.What != 1) rfl hv3 (fun hb hv3 => ?_) fun hb hv3 => ?_
      ·refine sg ?_
       obtain ⟨x6, hx6, hv3⟩ := bindS hv3
       refine ⟨_, rfl, _, rfl, ?_⟩
       refine CallOk.call (w_scrubN5 hx6) (LeL.refl _) ?_
       refine wT [(0, .s (mC p_disks)), (6, .o 79), (7, .o 33), (9, .b 9 0), (10, .s (mU x2)), (13, .b 13 0), (14, vi x6), (17, .s (mD p_l)), (18, vi (p_l.length : Int)), (19, vi s1.1), (39, .o 36), (40, vi (x4.length : Int)), (41, vi s2.1)] [(79, .own 47 6 (mA s2.2)), (33, .own 3 1 (mU s1.2.2)), (9, .box [vi x1.Id, vi x1.Ver, .s (mU x1.Servers)]), (13, .box [vi x5.Id, vi x5.Server, vi x5.What]), (36, .own 68 3 (mE x4))] ⟨lr, lr, lr, lr, lr, Q8⟩ ⟨hr, J4⟩ rfl ?_
       refine sq ?_
       refine Ok.draw2 (m := 11) (late := [9]) (MD := ⟨[]⟩) (CH := ⟨[]⟩) Tryz.tok Tryz.mixed (by kernel_rfl) ?_
       obtain ⟨x7, hx7, hv3⟩ := bindS hv3
       obtain ⟨x8, hx8, hv3⟩ := bindS hv3
       refine ⟨_, rfl, _, rfl, _, ⟨_, idx_nat hx7, _, idx_row hx7, rfl⟩, _, ⟨_, rfl, rfl⟩, _, rfl, _, ⟨_, rfl, rfl⟩, _, ⟨_, .of_pure (w_chunk_Get hx8) (LeL.refl _), rfl⟩, _, rfl, _, rfl, _, rfl, Q0, ?_⟩
       refine ⟨_, rfl, ⟨⟨_, rfl, rfl⟩, Q0⟩, ?_⟩
       refine wT [(0, .s (mC p_disks)), (6, .o 79), (7, .o 33), (9, .b 9 0), (10, .s (mU x2)), (13, .b 13 0), (14, vi x6), (15, .b 15 0), (17, .s (mD p_l)), (18, vi (p_l.length : Int)), (19, vi s1.1), (39, .o 36), (40, vi (x4.length : Int)), (41, vi s2.1)] [(79, .own 47 6 (mA s2.2)), (33, .own 3 1 (mU s1.2.2)), (9, .box [vi x1.Id, vi x1.Ver, .s (mU x1.Servers)]), (13, .box [vi x5.Id, vi x5.Server, vi x5.What]), (15, .box [vi x8.1.Id, vi x8.1.Ver, .s (mI x8.1.Data), .s (mU x8.1.Sums)]), (36, .own 68 3 (mE x4))] ⟨lr, lr, lr, lr, lr, lr, Q8⟩ ⟨hr, hr, J4⟩ rfl ?_
       refine rg ?_
       obtain ⟨hc2, hv3⟩ := chk_some hv3
       obtain ⟨hc3, hv3⟩ := chk_some hv3
       refine ⟨_, rfl, _, rfl, _, rfl, _, List.length_map _, fun _ => ⟨_, rfl, _, List.length_map _, fun _ => (Or.inl ⟨hc2, Or.inl ⟨rowsLen_map (f := c_api_Job) (n := 6) (fun _ => rfl) ([(⟨x1.Id, x1.Ver, x6, x5.Server, (x2.length : Int), ((x8.1.Data.length : Int) + 1)⟩ : api_Job)]), app_b2 (f := c_api_Job) (l := s2.2) (l' := [(⟨x1.Id, x1.Ver, x6, x5.Server, (x2.length : Int), ((x8.1.Data.length : Int) + 1)⟩ : api_Job)]) hc3, _, (List.map_append (f := c_api_Job) (l₁ := s2.2) (l₂ := [(⟨x1.Id, x1.Ver, x6, x5.Server, (x2.length : Int), ((x8.1.Data.length : Int) + 1)⟩ : api_Job)])).symm, ?_⟩⟩)⟩⟩
       cases hv3
       exact wt ⟨lr, lr, lr, Q8⟩ J4 rfl
      refine sk ?_
      cases hv3
      exact wt ⟨lr, lr, lr, Q8⟩ J4 rfl
     refine rg ?_
     obtain ⟨hc4, hB2⟩ := chk_some hB2
     refine (Or.inl ⟨hc4, ?_⟩)
     exact ⟨_, sj hB2, wt ⟨lr, lr, lr, Q8⟩ J4 rfl⟩
    refine xt ?_
    have hB2 := out_ret hB2 hy2
    cases hB2
    exact wt Q6 J2 rfl
   refine rg ?_
   obtain ⟨hc5, hB1⟩ := chk_some hB1
   refine (Or.inl ⟨hc5, ?_⟩)
   exact ⟨_, sj hB1, wt Q6 J2 rfl⟩
  refine xt ?_
  have hB1 := out_ret hB1 hy1
  cases hB1
  exact wt Q2 J2 rfl
 refine sg ?_
 refine wT [(4, .o 79), (5, .o 33)] [(79, .own 47 6 (mA v1.1)), (33, .own 3 1 (mU v1.2))] Q2 J2 rfl ?_
 refine rt ?_
 cases h
 exact (Fz.t (.cons (Fz.o rfl) (.cons (Fz.o rfl) .nil)))
theorem w_mendN4 [Off] {p_disks} {p_chains} {p_l} {p_budget} {r} (h : mend_Round p_disks p_chains p_l p_budget = some r) : Pure Tryz.prog 11 [(.s (mC p_disks)), (.s (mD p_chains)), (.s (mA p_l)), (vi p_budget)] (.t [(.s (mC r.1)), (.s (mA r.2.1)), (.s (mA r.2.2))]) := by
 refine po Tryz.tok 40 Tryz.func11 (by kernel_rfl) rfl rfl rfl ?_
 unfold mend_Round at h
 refine wE [(0, .s (mC p_disks)), (1, .s (mD p_chains)), (2, .s (mA p_l)), (3, vi p_budget)] Q4 ?_
 refine sg ?_
 refine wE [(0, .s (mC p_disks)), (1, .s (mD p_chains)), (2, .s (mA p_l)), (3, vi p_budget)] Q4 ?_
 refine sg ?_
 obtain ⟨x1, hx1, h⟩ := bindS h
 refine CallOk.call (w_scrubN3 hx1) (LeL.refl _) ?_
 refine wE [(0, .s (mC p_disks)), (2, .s (mA p_l)), (3, vi p_budget), (11, .s (mA x1.1))] Q4 ?_
 refine sg ?_
 obtain ⟨x2, hx2, h⟩ := bindS h
 refine CallOk.call (w_mendN1 hx2) (LeL.refl _) ?_
 obtain ⟨x3, hx3, h⟩ := bindS h
 refine CallOk.call (w_mendN2 hx3) (LeL.refl _) ?_
 obtain ⟨x4, hx4, h⟩ := bindS h
 refine CallOk.call (w_mend_Step hx4) (LeL.refl _) ?_
 refine wE [(0, .s (mC p_disks)), (13, .s (mA x4.1)), (14, .s (mA x4.2))] Q3 ?_
 refine sg ?_
 obtain ⟨x5, hx5, h⟩ := bindS h
 refine CallOk.call (w_mend_Do hx5) (LeL.refl _) ?_
 refine wE [(0, .s (mC x5.1)), (13, .s (mA x4.1)), (15, .s (mA x5.2))] Q3 ?_
 refine sg ?_
 refine wE [(8, .s (mC x5.1)), (9, .s (mA x4.1)), (10, .s (mA x5.2))] Q3 ?_
 refine rt ?_
 cases h
 exact (Fz.t (.cons Fz.s (.cons Fz.s (.cons Fz.s .nil))))
theorem w_ref27N7 {p_disks} {p_c} {p_s} {r} (h : ref27N20 p_disks p_c p_s = some r) : Pure Tryz.prog 20 [(.s (mC p_disks)), (.a [(vi p_c.Id), (vi p_c.Ver), (.s (mU p_c.Servers))]), (vi p_s)] (vi r) := by
 refine po Tryz.tok 44 Tryz.func20 (by kernel_rfl) rfl rfl rfl ?_
 unfold ref27N20 at h
 refine wE [(0, .s (mC p_disks)), (1, .a [vi p_c.Id, vi p_c.Ver, .s (mU p_c.Servers)]), (2, vi p_s)] Q3 ?_
 refine sg ?_
 refine wT [(0, .s (mC p_disks)), (2, vi p_s), (4, .b 4 0)] [(4, .box [vi p_c.Id, vi p_c.Ver, .s (mU p_c.Servers)])] Q3 J1 rfl ?_
 refine sq ?_
 obtain ⟨v1, hv1, h⟩ := bindS h
 refine Ok.seqw ⟨Cat.tab [(0, .s (mC p_disks)), (2, vi p_s), (4, .b 4 0), (19, vb v1)], [(4, .box [vi p_c.Id, vi p_c.Ver, .s (mU p_c.Servers)])]⟩ ?_ ?_
 ·refine rg ?_
  refine ⟨_, List.length_map _, fun _ => ?_⟩
  obtain ⟨c1, hg1, hv1⟩ := bindS hv1
  refine Br.itf hg1 (fun hb hg1 => ?_) fun hb hg1 => ?_
  ·cases hg1
   cases hv1
   exact wt Q4 J1 rfl
  obtain ⟨x1, hx1, hg1⟩ := bindS hg1
  refine ⟨_, idx_nat hx1, _, idx_row hx1, _, rfl, ?_⟩
  cases hg1
  cases hv1
  exact wt Q4 J1 rfl
 refine cn 19 (v1) rfl h (fun hb h => ?_) fun hb h => ?_
 ·refine sg ?_
  refine wE [(6, vi (1))] Q1 ?_
  refine rt ?_
  cases h
  exact Fz.v
 refine sk ?_
 refine sq ?_
 refine Ok.draw2 (m := 11) (late := [9]) (MD := ⟨[]⟩) (CH := ⟨[]⟩) Tryz.tok Tryz.mixed (by kernel_rfl) ?_
 obtain ⟨x2, hx2, h⟩ := bindS h
 obtain ⟨x3, hx3, h⟩ := bindS h
 refine ⟨_, rfl, _, rfl, _, ⟨_, idx_nat hx2, _, idx_row hx2, rfl⟩, _, ⟨_, rfl, rfl⟩, _, rfl, _, ⟨_, rfl, rfl⟩, _, ⟨_, .of_pure (w_ref25_Get hx3) (LeL.refl _), rfl⟩, _, rfl, _, rfl, _, rfl, Q0, ?_⟩
 refine ⟨_, rfl, ⟨⟨_, rfl, rfl⟩, Q0⟩, ?_⟩
 refine wT [(4, .b 4 0), (7, .b 7 0), (8, vi x3.2)] [(4, .box [vi p_c.Id, vi p_c.Ver, .s (mU p_c.Servers)]), (7, .box [vi x3.1.Id, vi x3.1.Ver, .s (mI x3.1.Data), .s (mU x3.1.Sums)])] Q3 J2 rfl ?_
 refine sq ?_
 refine sg ?_
 refine wT [(4, .b 4 0), (7, .b 7 0), (8, vi x3.2), (31, vb (x3.2 == 41))] [(4, .box [vi p_c.Id, vi p_c.Ver, .s (mU p_c.Servers)]), (7, .box [vi x3.1.Id, vi x3.1.Ver, .s (mI x3.1.Data), .s (mU x3.1.Sums)])] Q4 J2 rfl ?_
 refine cn 31 (x3.2 == 41) rfl h (fun hb h => ?_) fun hb h => ?_
 ·refine sg ?_
  refine wE [(6, vi (2))] Q1 ?_
  refine rt ?_
  cases h
  exact Fz.v
 refine sk ?_
 refine sq ?_
 refine sg ?_
 refine wT [(4, .b 4 0), (7, .b 7 0), (33, vb (x3.2 != 0))] [(4, .box [vi p_c.Id, vi p_c.Ver, .s (mU p_c.Servers)]), (7, .box [vi x3.1.Id, vi x3.1.Ver, .s (mI x3.1.Data), .s (mU x3.1.Sums)])] Q3 J2 rfl ?_
 refine cn 33 (x3.2 != 0) rfl h (fun hb h => ?_) fun hb h => ?_
 ·refine sg ?_
  refine wE [(6, vi (3))] Q1 ?_
  refine rt ?_
  cases h
  exact Fz.v
 refine sk ?_
 refine sq ?_
 refine sg ?_
 refine ⟨_, rfl, _, rfl, ?_⟩
 refine wT [(4, .b 4 0), (7, .b 7 0), (38, vb (decide (x3.1.Ver < p_c.Ver)))] [(4, .box [vi p_c.Id, vi p_c.Ver, .s (mU p_c.Servers)]), (7, .box [vi x3.1.Id, vi x3.1.Ver, .s (mI x3.1.Data), .s (mU x3.1.Sums)])] Q3 J2 rfl ?_
 refine cn 38 (decide (x3.1.Ver < p_c.Ver)) rfl h (fun hb h => ?_) fun hb h => ?_
 ·refine sg ?_
  refine wE [(6, vi (4))] Q1 ?_
  refine rt ?_
  cases h
  exact Fz.v
 refine sk ?_
 refine sq ?_
 refine sg ?_
 refine ⟨_, rfl, _, rfl, ?_⟩
 refine wE [(43, vb (decide (x3.1.Ver > p_c.Ver)))] Q1 ?_
 refine cn 43 (decide (x3.1.Ver > p_c.Ver)) rfl h (fun hb h => ?_) fun hb h => ?_
 ·refine sg ?_
  refine wE [(6, vi (5))] Q1 ?_
  refine rt ?_
  cases h
  exact Fz.v
 refine sk ?_
 refine sg ?_
 refine wE [(6, vi (0))] Q1 ?_
 refine rt ?_
 cases h
 exact Fz.v
theorem wo_ref27N1 {p_disks} {p_c} {r} (h : ref27N1 p_disks p_c = some r) : POwn Tryz.prog 19 [(.s (mC p_disks)), (.a [(vi p_c.Id), (vi p_c.Ver), (.s (mU p_c.Servers))])] 3 1 (mU r) := by
 refine pw Tryz.tok 32 Tryz.func19 (by kernel_rfl) rfl rfl rfl ?_
 unfold ref27N1 at h
 refine wE [(0, .s (mC p_disks)), (1, .a [vi p_c.Id, vi p_c.Ver, .s (mU p_c.Servers)])] Q2 ?_
 refine sg ?_
 refine wT [(0, .s (mC p_disks)), (3, .b 3 0)] [(3, .box [vi p_c.Id, vi p_c.Ver, .s (mU p_c.Servers)])] Q2 J1 rfl ?_
 refine sg ?_
 refine wT [(0, .s (mC p_disks)), (3, .b 3 0), (5, .v (.slice none 0 0))] [(3, .box [vi p_c.Id, vi p_c.Ver, .s (mU p_c.Servers)])] Q3 J1 rfl ?_
 obtain ⟨v1, hv1, h⟩ := bindS h
 refine Ok.seqw ⟨Cat.tab [(5, .o 30)], [(30, .own 3 1 (mU v1))]⟩ ?_ ?_
 ·refine sg ?_
  refine wT [(0, .s (mC p_disks)), (3, .b 3 0), (5, .v (.slice none 0 0)), (6, vi (0))] [(3, .box [vi p_c.Id, vi p_c.Ver, .s (mU p_c.Servers)])] Q4 J1 rfl ?_
  refine bl ?_
  refine Ok.loop (fun (s1 : Int × (List Int)) => ⟨Cat.tab [(0, .s (mC p_disks)), (3, .b 3 0), (5, .o 30), (6, vi s1.1)], [(3, .box [vi p_c.Id, vi p_c.Ver, .s (mU p_c.Servers)]), (30, .own 3 1 (mU s1.2))]⟩) (ref27N2 p_c p_disks) (s0 := (0, [])) hv1 ((Wk.own0 (t := 5) (id := 30) (E := 3) (K := 1) rfl rfl).trans (wt Q4 ⟨⟨_, rfl, .refl _⟩, ⟨_, rfl, .refl _⟩, Q0⟩ rfl)) ?_
  intro s1 y1 hB1 hy1
  unfold ref27N2 at hB1
  refine sq ?_
  refine sg ?_
  refine ⟨_, rfl, _, List.length_map _, fun _ => ?_⟩
  refine wT [(0, .s (mC p_disks)), (3, .b 3 0), (5, .o 30), (6, vi s1.1), (11, vb (decide (s1.1 < (p_c.Servers.length : Int))))] [(3, .box [vi p_c.Id, vi p_c.Ver, .s (mU p_c.Servers)]), (30, .own 3 1 (mU s1.2))] Q5 J2 rfl ?_
  refine cn 11 (decide (s1.1 < (p_c.Servers.length : Int))) rfl hB1 (fun hb hB1 => ?_) fun hb hB1 => ?_
  ·refine sk ?_
   obtain ⟨v2, hv2, hB1⟩ := bindS hB1
   refine Ok.seqw ⟨Cat.tab [(0, .s (mC p_disks)), (3, .b 3 0), (5, .o 30), (6, vi s1.1)], [(3, .box [vi p_c.Id, vi p_c.Ver, .s (mU p_c.Servers)]), (30, .own 3 1 (mU v2))]⟩ ?_ ?_
   ·refine bl ?_
    refine sq ?_
    refine Ok.draw (m := 9) (MD := ⟨[]⟩) (CH := ⟨[]⟩) Tryz.tok Tryz.mixed (by kernel_rfl) ?_
    obtain ⟨x1, hx1, hv2⟩ := bindS hv2
    obtain ⟨x2, hx2, hv2⟩ := bindS hv2
    refine ⟨_, rfl, _, ⟨_, rfl, rfl⟩, _, rfl, _, ⟨_, rfl, rfl⟩, _, rfl, _, ⟨_, idx_nat hx1, _, idx_row hx1, rfl⟩, _, ⟨_, rfl, rfl⟩, _, ⟨_, .of_pure (w_ref27N7 hx2) (LeL.refl _), rfl⟩, _, rfl, Q0, ?_⟩
    refine wT [(0, .s (mC p_disks)), (3, .b 3 0), (5, .o 30), (6, vi s1.1), (22, vb (x2 == 0))] [(3, .box [vi p_c.Id, vi p_c.Ver, .s (mU p_c.Servers)]), (30, .own 3 1 (mU s1.2))] Q5 J2 rfl ?_
    refine cn 22 (x2 == 0) rfl hv2 (fun hb hv2 => ?_) fun hb hv2 => ?_
    ·refine rg ?_
     obtain ⟨x3, hx3, hv2⟩ := bindS hv2
     obtain ⟨hc1, hv2⟩ := chk_some hv2
     refine ⟨_, rfl, _, idx_nat hx3, _, idx_row hx3, _, rfl, Or.inl ⟨rowsLen_map (f := Go.Cat.encI) (n := 1) (fun _ => rfl) ([x3]), app_b2 (f := Go.Cat.encI) (l := s1.2) (l' := [x3]) hc1, _, (List.map_append (f := Go.Cat.encI) (l₁ := s1.2) (l₂ := [x3])).symm, ?_⟩⟩
     cases hv2
     exact wt Q4 J2 rfl
    refine sk ?_
    cases hv2
    exact wt Q4 J2 rfl
   refine rg ?_
   obtain ⟨hc2, hB1⟩ := chk_some hB1
   refine (Or.inl ⟨hc2, ?_⟩)
   exact ⟨_, sj hB1, wt Q4 J2 rfl⟩
  refine xt ?_
  have hB1 := out_ret hB1 hy1
  cases hB1
  exact wt Q1 J1 rfl
 refine sg ?_
 refine wT [(4, .o 30)] [(30, .own 3 1 (mU v1))] Q1 J1 rfl ?_
 refine rt ?_
 cases h
 exact (.inr ⟨_, rfl, rfl⟩)
theorem w_ref27N2 {p_disks} {p_c} {r} (h : ref27N1 p_disks p_c = some r) : Pure Tryz.prog 19 [(.s (mC p_disks)), (.a [(vi p_c.Id), (vi p_c.Ver), (.s (mU p_c.Servers))])] (.s (mU r)) := (wo_ref27N1 h).pure
theorem w_ref27N8 {p_c} {p_own} {p_s} {r} (h : ref27_from p_c p_own p_s = some r) : Pure Tryz.prog 89 [(.a [(vi p_c.Id), (vi p_c.Ver), (.s (mU p_c.Servers))]), (.s (mU p_own)), (vi p_s)] (vi r) := by
 refine po Tryz.tok 44 Tryz.func89 (by kernel_rfl) rfl rfl rfl ?_
 unfold ref27_from at h
 refine wE [(0, .a [vi p_c.Id, vi p_c.Ver, .s (mU p_c.Servers)]), (1, .s (mU p_own)), (2, vi p_s)] Q3 ?_
 refine sg ?_
 refine wT [(1, .s (mU p_own)), (2, vi p_s), (3, .b 3 0)] [(3, .box [vi p_c.Id, vi p_c.Ver, .s (mU p_c.Servers)])] Q3 J1 rfl ?_
 refine sg ?_
 refine wT [(1, .s (mU p_own)), (2, vi p_s), (3, .b 3 0), (7, vi (-1))] [(3, .box [vi p_c.Id, vi p_c.Ver, .s (mU p_c.Servers)])] Q4 J1 rfl ?_
 refine sg ?_
 refine wT [(1, .s (mU p_own)), (2, vi p_s), (3, .b 3 0), (7, vi (-1)), (8, vb false)] [(3, .box [vi p_c.Id, vi p_c.Ver, .s (mU p_c.Servers)])] Q5 J1 rfl ?_
 refine Ok.seqj (fun v1 => ⟨Cat.tab [(7, vi v1)], []⟩) (fun v1 => ref27N22 v1 = some r) ?_ ?_
 ·refine sg ?_
  refine wT [(1, .s (mU p_own)), (2, vi p_s), (3, .b 3 0), (7, vi (-1)), (8, vb false), (9, vi (0))] [(3, .box [vi p_c.Id, vi p_c.Ver, .s (mU p_c.Servers)])] Q6 J1 rfl ?_
  refine bl ?_
  refine Ok.loop (fun (s1 : Int × Bool × Int) => ⟨Cat.tab [(1, .s (mU p_own)), (2, vi p_s), (3, .b 3 0), (7, vi s1.1), (8, vb s1.2.1), (9, vi s1.2.2)], [(3, .box [vi p_c.Id, vi p_c.Ver, .s (mU p_c.Servers)])]⟩) (ref27N21 p_c p_s p_own) (s0 := ((-1), false, 0)) h (wt Q6 ⟨⟨_, rfl, .refl _⟩, Q0⟩ rfl) ?_
  intro s1 y1 hB1 hy1
  unfold ref27N21 at hB1
  refine sq ?_
  refine sg ?_
  refine ⟨_, rfl, _, List.length_map _, fun _ => ?_⟩
  refine wT [(1, .s (mU p_own)), (2, vi p_s), (3, .b 3 0), (7, vi s1.1), (8, vb s1.2.1), (9, vi s1.2.2), (14, vb (decide (s1.2.2 < (p_c.Servers.length : Int))))] [(3, .box [vi p_c.Id, vi p_c.Ver, .s (mU p_c.Servers)])] Q7 J1 rfl ?_
  refine cn 14 (decide (s1.2.2 < (p_c.Servers.length : Int))) rfl hB1 (fun hb hB1 => ?_) fun hb hB1 => ?_
  ·refine sk ?_
   refine Ok.seqj (fun v2 => ⟨Cat.tab [(1, .s (mU p_own)), (2, vi p_s), (3, .b 3 0), (7, vi v2.1), (8, vb v2.2), (9, vi s1.2.2)], [(3, .box [vi p_c.Id, vi p_c.Ver, .s (mU p_c.Servers)])]⟩) (fun v2 => ref27N23 s1 v2 = some y1) ?_ ?_
   ·refine bl ?_
    obtain ⟨v3, hv3, hB1⟩ := bindS hB1
    refine Ok.seqw ⟨Cat.tab [(1, .s (mU p_own)), (2, vi p_s), (3, .b 3 0), (7, vi s1.1), (8, vb v3), (9, vi s1.2.2)], [(3, .box [vi p_c.Id, vi p_c.Ver, .s (mU p_c.Servers)])]⟩ ?_ ?_
    ·refine sg ?_
     obtain ⟨x1, hx1, hv3⟩ := bindS hv3
     refine ⟨_, rfl, _, idx_nat hx1, _, idx_row hx1, _, rfl, ?_⟩
     refine wT [(1, .s (mU p_own)), (2, vi p_s), (3, .b 3 0), (7, vi s1.1), (8, vb s1.2.1), (9, vi s1.2.2), (23, vb (x1 == p_s))] [(3, .box [vi p_c.Id, vi p_c.Ver, .s (mU p_c.Servers)])] Q7 J1 rfl ?_
     refine cn 23 (x1 == p_s) rfl hv3 (fun hb hv3 => ?_) fun hb hv3 => ?_
     ·refine rg ?_
      cases hv3
      exact wt Q6 J1 rfl
     refine sk ?_
     cases hv3
     exact wt Q6 J1 rfl
    refine sq ?_
    refine sg ?_
    obtain ⟨x2, hx2, hB1⟩ := bindS hB1
    obtain ⟨x3, hx3, hB1⟩ := bindS hB1
    refine ⟨_, rfl, _, idx_nat hx2, _, idx_row hx2, _, rfl, ?_⟩
    refine CallOk.call (w_ref27_has hx3) (LeL.refl _) ?_
    refine wT [(1, .s (mU p_own)), (2, vi p_s), (3, .b 3 0), (7, vi s1.1), (8, vb v3), (9, vi s1.2.2), (31, vb (!x3))] [(3, .box [vi p_c.Id, vi p_c.Ver, .s (mU p_c.Servers)])] Q7 J1 rfl ?_
    refine cn 31 (!x3) rfl hB1 (fun hb hB1 => ?_) fun hb hB1 => ?_
    ·refine xt ?_
     exact ⟨_, hB1, wt Q6 ⟨⟨_, rfl, .refl _⟩, Q0⟩ rfl⟩
    refine sk ?_
    refine sq ?_
    refine sg ?_
    refine wT [(1, .s (mU p_own)), (2, vi p_s), (3, .b 3 0), (8, vb v3), (9, vi s1.2.2), (32, vb v3)] [(3, .box [vi p_c.Id, vi p_c.Ver, .s (mU p_c.Servers)])] Q6 J1 rfl ?_
    refine cn 32 (v3) rfl hB1 (fun hb hB1 => ?_) fun hb hB1 => ?_
    ·refine sg ?_
     obtain ⟨x4, hx4, hB1⟩ := bindS hB1
     refine ⟨_, rfl, _, idx_nat hx4, _, idx_row hx4, _, rfl, ?_⟩
     refine wE [(6, vi x4)] Q1 ?_
     refine rt ?_
     have hB1 := out_ret hB1 hy1
     cases hB1
     exact Fz.v
    refine sk ?_
    refine rg ?_
    obtain ⟨x5, hx5, hB1⟩ := bindS hB1
    refine ⟨_, rfl, _, idx_nat hx5, _, idx_row hx5, _, rfl, ?_⟩
    exact ⟨_, hB1, wt Q6 ⟨⟨_, rfl, .refl _⟩, Q0⟩ rfl⟩
   intro v2 hB1
   unfold ref27N23 at hB1
   refine rg ?_
   obtain ⟨hc1, hB1⟩ := chk_some hB1
   refine (Or.inl ⟨hc1, ?_⟩)
   exact ⟨_, sj hB1, wt Q6 J1 rfl⟩
  refine xt ?_
  have hB1 := out_ret hB1 hy1
  exact ⟨_, hB1, wt Q1 Q0 rfl⟩
 intro v1 h
 unfold ref27N22 at h
 refine sg ?_
 refine wE [(6, vi v1)] Q1 ?_
 refine rt ?_
 cases h
 exact Fz.v
theorem wo_ref27N2 {p_disks} {p_c} {p_own} {r} (h : ref27_jobs p_disks p_c p_own = some r) : POwn Tryz.prog 61 [(.s (mC p_disks)), (.a [(vi p_c.Id), (vi p_c.Ver), (.s (mU p_c.Servers))]), (.s (mU p_own))] 47 6 (mA r) := by
 refine pw Tryz.tok 66 Tryz.func61 (by kernel_rfl) rfl rfl rfl ?_
 unfold ref27_jobs at h
 refine wE [(0, .s (mC p_disks)), (1, .a [vi p_c.Id, vi p_c.Ver, .s (mU p_c.Servers)]), (2, .s (mU p_own))] Q3 ?_
 refine sg ?_
 refine wT [(0, .s (mC p_disks)), (2, .s (mU p_own)), (4, .b 4 0)] [(4, .box [vi p_c.Id, vi p_c.Ver, .s (mU p_c.Servers)])] Q3 J1 rfl ?_
 refine sg ?_
 refine wT [(0, .s (mC p_disks)), (2, .s (mU p_own)), (4, .b 4 0), (7, .v (.slice none 0 0))] [(4, .box [vi p_c.Id, vi p_c.Ver, .s (mU p_c.Servers)])] Q4 J1 rfl ?_
 obtain ⟨v1, hv1, h⟩ := bindS h
 refine Ok.seqw ⟨Cat.tab [(7, .o 64)], [(64, .own 47 6 (mA v1))]⟩ ?_ ?_
 ·refine sg ?_
  refine wT [(0, .s (mC p_disks)), (2, .s (mU p_own)), (4, .b 4 0), (7, .v (.slice none 0 0)), (8, vi (0))] [(4, .box [vi p_c.Id, vi p_c.Ver, .s (mU p_c.Servers)])] Q5 J1 rfl ?_
  refine bl ?_
  refine Ok.loop (fun (s1 : Int × (List api_Job)) => ⟨Cat.tab [(0, .s (mC p_disks)), (2, .s (mU p_own)), (4, .b 4 0), (7, .o 64), (8, vi s1.1)], [(4, .box [vi p_c.Id, vi p_c.Ver, .s (mU p_c.Servers)]), (64, .own 47 6 (mA s1.2))]⟩) (ref27N28 p_disks p_c p_own) (s0 := (0, [])) hv1 ((Wk.own0 (t := 7) (id := 64) (E := 47) (K := 6) rfl rfl).trans (wt Q5 ⟨⟨_, rfl, .refl _⟩, ⟨_, rfl, .refl _⟩, Q0⟩ rfl)) ?_
  intro s1 y1 hB1 hy1
  unfold ref27N28 at hB1
  refine sq ?_
  refine sg ?_
  refine ⟨_, List.length_map _, fun _ => ?_⟩
  refine wT [(0, .s (mC p_disks)), (2, .s (mU p_own)), (4, .b 4 0), (7, .o 64), (8, vi s1.1), (16, vb (decide (s1.1 < (p_disks.length : Int))))] [(4, .box [vi p_c.Id, vi p_c.Ver, .s (mU p_c.Servers)]), (64, .own 47 6 (mA s1.2))] Q6 J2 rfl ?_
  refine cn 16 (decide (s1.1 < (p_disks.length : Int))) rfl hB1 (fun hb hB1 => ?_) fun hb hB1 => ?_
  ·refine sk ?_
   obtain ⟨v2, hv2, hB1⟩ := bindS hB1
   refine Ok.seqw ⟨Cat.tab [(0, .s (mC p_disks)), (2, .s (mU p_own)), (4, .b 4 0), (7, .o 64), (8, vi s1.1)], [(4, .box [vi p_c.Id, vi p_c.Ver, .s (mU p_c.Servers)]), (64, .own 47 6 (mA v2))]⟩ ?_ ?_
   ·refine bl ?_
    refine sg ?_
    obtain ⟨x1, hx1, hv2⟩ := bindS hv2
    refine ⟨_, rfl, ?_⟩
    refine CallOk.call (w_ref27N7 hx1) (LeL.refl _) ?_
    refine wT [(0, .s (mC p_disks)), (2, .s (mU p_own)), (4, .b 4 0), (7, .o 64), (8, vi s1.1), (9, vi x1)] [(4, .box [vi p_c.Id, vi p_c.Ver, .s (mU p_c.Servers)]), (64, .own 47 6 (mA s1.2))] Q6 J2 rfl ?_
    obtain ⟨v3, hv3, hv2⟩ := bindS hv2
    refine Ok.seqw ⟨Cat.tab [(0, .s (mC p_disks)), (2, .s (mU p_own)), (4, .b 4 0), (7, .o 64), (8, vi s1.1), (34, vb v3)], [(4, .box [vi p_c.Id, vi p_c.Ver, .s (mU p_c.Servers)]), (64, .own 47 6 (mA s1.2))]⟩ ?_ ?_
    ·refine rg ?_
     obtain ⟨x2, hx2, hv3⟩ := bindS hv3
     refine ⟨_, rfl, ?_⟩
     refine CallOk.call (w_ref27_has hx2) (LeL.refl _) ?_
     obtain ⟨c1, hg1, hv3⟩ := bindS hv3
     refine Br.ite hg1 (fun hb hg1 => ?_) fun hb hg1 => ?_
     ·cases hg1
      obtain ⟨c2, hg2, hv3⟩ := bindS hv3
      refine Br.ite hg2 (fun hb hg2 => ?_) fun hb hg2 => ?_
      ·cases hg2
       cases hv3
       exact wt Q6 J2 rfl
      cases hg2
      cases hv3
      exact wt Q6 J2 rfl
     cases hg1
     obtain ⟨c2, hg3, hv3⟩ := bindS hv3
     replace hg3 := iteF hg3
     cases hg3
     cases hv3
     exact wt Q6 J2 rfl
    refine cn 34 (v3) rfl hv2 (fun hb hv2 => ?_) fun hb hv2 => ?_
    ·refine sg ?_
     obtain ⟨x3, hx3, hv2⟩ := bindS hv2
     refine ⟨_, rfl, ?_⟩
     refine CallOk.call (w_ref27N8 hx3) (LeL.refl _) ?_
     refine wT [(0, .s (mC p_disks)), (2, .s (mU p_own)), (4, .b 4 0), (7, .o 64), (8, vi s1.1), (10, vi x3)] [(4, .box [vi p_c.Id, vi p_c.Ver, .s (mU p_c.Servers)]), (64, .own 47 6 (mA s1.2))] Q6 J2 rfl ?_
     refine sq ?_
     refine Ok.draw2 (m := 11) (late := [9]) (MD := ⟨[]⟩) (CH := ⟨[]⟩) Tryz.tok Tryz.mixed (by kernel_rfl) ?_
     obtain ⟨x4, hx4, hv2⟩ := bindS hv2
     obtain ⟨x5, hx5, hv2⟩ := bindS hv2
     refine ⟨_, rfl, _, rfl, _, ⟨_, idx_nat hx4, _, idx_row hx4, rfl⟩, _, ⟨_, rfl, rfl⟩, _, rfl, _, ⟨_, rfl, rfl⟩, _, ⟨_, .of_pure (w_ref25_Get hx5) (LeL.refl _), rfl⟩, _, rfl, _, rfl, _, rfl, Q0, ?_⟩
     refine ⟨_, rfl, ⟨⟨_, rfl, rfl⟩, Q0⟩, ?_⟩
     refine wT [(0, .s (mC p_disks)), (2, .s (mU p_own)), (4, .b 4 0), (7, .o 64), (8, vi s1.1), (10, vi x3), (11, .b 11 0)] [(4, .box [vi p_c.Id, vi p_c.Ver, .s (mU p_c.Servers)]), (64, .own 47 6 (mA s1.2)), (11, .box [vi x5.1.Id, vi x5.1.Ver, .s (mI x5.1.Data), .s (mU x5.1.Sums)])] Q7 J3 rfl ?_
     refine rg ?_
     obtain ⟨hc1, hv2⟩ := chk_some hv2
     obtain ⟨hc2, hv2⟩ := chk_some hv2
     refine ⟨_, rfl, _, rfl, _, List.length_map _, fun _ => ⟨_, rfl, _, List.length_map _, fun _ => (Or.inl ⟨hc1, Or.inl ⟨rowsLen_map (f := c_api_Job) (n := 6) (fun _ => rfl) ([(⟨p_c.Id, p_c.Ver, x3, s1.1, (p_own.length : Int), ((x5.1.Data.length : Int) + 1)⟩ : api_Job)]), app_b2 (f := c_api_Job) (l := s1.2) (l' := [(⟨p_c.Id, p_c.Ver, x3, s1.1, (p_own.length : Int), ((x5.1.Data.length : Int) + 1)⟩ : api_Job)]) hc2, _, (List.map_append (f := c_api_Job) (l₁ := s1.2) (l₂ := [(⟨p_c.Id, p_c.Ver, x3, s1.1, (p_own.length : Int), ((x5.1.Data.length : Int) + 1)⟩ : api_Job)])).symm, ?_⟩⟩)⟩⟩
     cases hv2
     exact wt Q5 J2 rfl
    refine sk ?_
    cases hv2
    exact wt Q5 J2 rfl
   refine rg ?_
   obtain ⟨hc3, hB1⟩ := chk_some hB1
   refine (Or.inl ⟨hc3, ?_⟩)
   exact ⟨_, sj hB1, wt Q5 J2 rfl⟩
  refine xt ?_
  have hB1 := out_ret hB1 hy1
  cases hB1
  exact wt Q1 J1 rfl
 refine sg ?_
 refine wT [(6, .o 64)] [(64, .own 47 6 (mA v1))] Q1 J1 rfl ?_
 refine rt ?_
 cases h
 exact (.inr ⟨_, rfl, rfl⟩)
theorem w_ref27N9 {p_disks} {p_c} {p_own} {r} (h : ref27_jobs p_disks p_c p_own = some r) : Pure Tryz.prog 61 [(.s (mC p_disks)), (.a [(vi p_c.Id), (vi p_c.Ver), (.s (mU p_c.Servers))]), (.s (mU p_own))] (.s (mA r)) := (wo_ref27N2 h).pure
theorem w_ref27N3 {p_disks} {p_l} {r} (h : ref27_Plan p_disks p_l = some r) : Pure Tryz.prog 32 [(.s (mC p_disks)), (.s (mD p_l))] (.t [(.s (mA r.1)), (.s (mU r.2))]) := by
 refine po Tryz.tok 44 Tryz.func32 (by kernel_rfl) rfl rfl rfl ?_
 unfold ref27_Plan at h
 refine wE [(0, .s (mC p_disks)), (1, .s (mD p_l))] Q2 ?_
 refine sg ?_
 refine wE [(0, .s (mC p_disks)), (1, .s (mD p_l))] Q2 ?_
 refine sg ?_
 refine wE [(0, .s (mC p_disks)), (1, .s (mD p_l)), (6, .v (.slice none 0 0))] Q3 ?_
 refine sg ?_
 refine wE [(0, .s (mC p_disks)), (1, .s (mD p_l)), (6, .v (.slice none 0 0)), (7, .v (.slice none 0 0))] Q4 ?_
 obtain ⟨v1, hv1, h⟩ := bindS h
 refine Ok.seqw ⟨Cat.tab [(6, .o 41), (7, .o 32)], [(41, .own 47 6 (mA v1.1)), (32, .own 3 1 (mU v1.2))]⟩ ?_ ?_
 ·refine sg ?_
  refine wE [(0, .s (mC p_disks)), (1, .s (mD p_l)), (6, .v (.slice none 0 0)), (7, .v (.slice none 0 0)), (8, vi (0))] Q5 ?_
  refine bl ?_
  refine Ok.loop (fun (s1 : Int × (List api_Job) × (List Int)) => ⟨Cat.tab [(0, .s (mC p_disks)), (1, .s (mD p_l)), (6, .o 41), (7, .o 32), (8, vi s1.1)], [(41, .own 47 6 (mA s1.2.1)), (32, .own 3 1 (mU s1.2.2))]⟩) (ref27N4 p_l p_disks) (s0 := (0, [], [])) hv1 ((Wk.own0 (t := 6) (id := 41) (E := 47) (K := 6) rfl rfl).trans ((Wk.own0 (t := 7) (id := 32) (E := 3) (K := 1) rfl rfl).trans (wt Q5 ⟨⟨_, rfl, .refl _⟩, ⟨_, rfl, .refl _⟩, Q0⟩ rfl))) ?_
  intro s1 y1 hB1 hy1
  unfold ref27N4 at hB1
  refine sq ?_
  refine sg ?_
  refine ⟨_, List.length_map _, fun _ => ?_⟩
  refine wT [(0, .s (mC p_disks)), (1, .s (mD p_l)), (6, .o 41), (7, .o 32), (8, vi s1.1), (13, vb (decide (s1.1 < (p_l.length : Int))))] [(41, .own 47 6 (mA s1.2.1)), (32, .own 3 1 (mU s1.2.2))] Q6 J2 rfl ?_
  refine cn 13 (decide (s1.1 < (p_l.length : Int))) rfl hB1 (fun hb hB1 => ?_) fun hb hB1 => ?_
  ·refine sk ?_
   obtain ⟨v2, hv2, hB1⟩ := bindS hB1
   refine Ok.seqw ⟨Cat.tab [(0, .s (mC p_disks)), (1, .s (mD p_l)), (6, .o 41), (7, .o 32), (8, vi s1.1)], [(41, .own 47 6 (mA v2.1)), (32, .own 3 1 (mU v2.2))]⟩ ?_ ?_
   ·refine bl ?_
    refine sg ?_
    obtain ⟨x1, hx1, hv2⟩ := bindS hv2
    obtain ⟨x2, hx2, hv2⟩ := bindS hv2
    refine ⟨_, idx_nat hx1, _, idx_row hx1, _, rfl, ?_⟩
    refine CallOk.call (w_ref27N2 hx2) (LeL.refl _) ?_
    refine wT [(0, .s (mC p_disks)), (1, .s (mD p_l)), (6, .o 41), (7, .o 32), (8, vi s1.1), (9, .s (mU x2))] [(41, .own 47 6 (mA s1.2.1)), (32, .own 3 1 (mU s1.2.2))] Q6 J2 rfl ?_
    refine sg ?_
    refine ⟨_, List.length_map _, fun _ => ?_⟩
    refine wT [(0, .s (mC p_disks)), (1, .s (mD p_l)), (6, .o 41), (7, .o 32), (8, vi s1.1), (9, .s (mU x2)), (24, vb ((x2.length : Int) == 0))] [(41, .own 47 6 (mA s1.2.1)), (32, .own 3 1 (mU s1.2.2))] Q7 J2 rfl ?_
    refine cn 24 ((x2.length : Int) == 0) rfl hv2 (fun hb hv2 => ?_) fun hb hv2 => ?_
    ·refine rg ?_
     obtain ⟨x3, hx3, hv2⟩ := bindS hv2
     obtain ⟨hc1, hv2⟩ := chk_some hv2
     refine ⟨_, idx_nat hx3, _, idx_row hx3, _, rfl, Or.inl ⟨rowsLen_map (f := Go.Cat.encI) (n := 1) (fun _ => rfl) ([x3.Id]), app_b2 (f := Go.Cat.encI) (l := s1.2.2) (l' := [x3.Id]) hc1, _, (List.map_append (f := Go.Cat.encI) (l₁ := s1.2.2) (l₂ := [x3.Id])).symm, ?_⟩⟩
     cases hv2
     exact wt Q5 J2 rfl
    refine rg ?_
    obtain ⟨x4, hx4, hv2⟩ := bindS hv2
    obtain ⟨x5, hx5, hv2⟩ := bindS hv2
    refine ⟨_, idx_nat hx4, _, idx_row hx4, _, rfl, ?_⟩
    refine CallOk.call (w_ref27N9 hx5) (LeL.refl _) ?_
    obtain ⟨hc2, hv2⟩ := chk_some hv2
    refine ⟨rowsLen_map (f := c_api_Job) (n := 6) (fun _ => rfl) x5, app_b2 (f := c_api_Job) (l := s1.2.1) (l' := x5) hc2, _, (List.map_append (f := c_api_Job) (l₁ := s1.2.1) (l₂ := x5)).symm, ?_⟩
    cases hv2
    exact wt Q5 J2 rfl
   refine rg ?_
   obtain ⟨hc3, hB1⟩ := chk_some hB1
   refine (Or.inl ⟨hc3, ?_⟩)
   exact ⟨_, sj hB1, wt Q5 J2 rfl⟩
  refine xt ?_
  have hB1 := out_ret hB1 hy1
  cases hB1
  exact wt Q2 J2 rfl
 refine sg ?_
 refine wT [(4, .o 41), (5, .o 32)] [(41, .own 47 6 (mA v1.1)), (32, .own 3 1 (mU v1.2))] Q2 J2 rfl ?_
 refine rt ?_
 cases h
 exact (Fz.t (.cons (Fz.o rfl) (.cons (Fz.o rfl) .nil)))
theorem wo_ref28N1 {p_l} {p_plan} {r} (h : ref28_Renew p_l p_plan = some r) : POwn Tryz.prog 34 [(.s (mA p_l)), (.s (mA p_plan))] 47 6 (mA r) := by
 refine pw Tryz.tok 49 Tryz.func34 (by kernel_rfl) rfl rfl rfl ?_
 unfold ref28_Renew at h
 refine wE [(0, .s (mA p_l)), (1, .s (mA p_plan))] Q2 ?_
 refine sg ?_
 refine wE [(0, .s (mA p_l)), (1, .s (mA p_plan))] Q2 ?_
 refine sg ?_
 refine Or.inr ?_
 refine wT [(0, .s (mA p_l)), (1, .s (mA p_plan)), (5, .o 9)] [(9, .own 47 6 (mA ([] : List api_Job)))] Q3 J1 rfl ?_
 obtain ⟨v1, hv1, h⟩ := bindS h
 refine Ok.seqw ⟨Cat.tab [(5, .o 9)], [(9, .own 47 6 (mA v1))]⟩ ?_ ?_
 ·refine sg ?_
  refine wT [(0, .s (mA p_l)), (1, .s (mA p_plan)), (5, .o 9), (6, vi (0))] [(9, .own 47 6 (mA ([] : List api_Job)))] Q4 J1 rfl ?_
  refine bl ?_
  refine Ok.loop (fun (s1 : Int × (List api_Job)) => ⟨Cat.tab [(0, .s (mA p_l)), (1, .s (mA p_plan)), (5, .o 9), (6, vi s1.1)], [(9, .own 47 6 (mA s1.2))]⟩) (ref28N5 p_plan p_l) (s0 := (0, ([] : List api_Job))) hv1 (wt Q4 ⟨⟨_, rfl, .refl _⟩, Q0⟩ rfl) ?_
  intro s1 y1 hB1 hy1
  unfold ref28N5 at hB1
  refine sq ?_
  refine sg ?_
  refine ⟨_, List.length_map _, fun _ => ?_⟩
  refine wT [(0, .s (mA p_l)), (1, .s (mA p_plan)), (5, .o 9), (6, vi s1.1), (13, vb (decide (s1.1 < (p_plan.length : Int))))] [(9, .own 47 6 (mA s1.2))] Q5 J1 rfl ?_
  refine cn 13 (decide (s1.1 < (p_plan.length : Int))) rfl hB1 (fun hb hB1 => ?_) fun hb hB1 => ?_
  ·refine sk ?_
   refine sq ?_
   refine bl ?_
   refine sg ?_
   obtain ⟨x1, hx1, hB1⟩ := bindS hB1
   refine ⟨_, idx_nat hx1, _, idx_row hx1, _, rfl, _, rfl, ?_⟩
   refine wT [(0, .s (mA p_l)), (1, .s (mA p_plan)), (5, .o 9), (6, vi s1.1), (7, .b 7 0)] [(9, .own 47 6 (mA s1.2)), (7, .box [vi x1.Id, vi x1.Ver, vi x1.From, vi x1.To, vi x1.Have, vi x1.Left])] Q5 J2 rfl ?_
   refine sg ?_
   obtain ⟨x2, hx2, hB1⟩ := bindS hB1
   refine ⟨_, rfl, ?_⟩
   refine CallOk.call (w_ref28N6 hx2) (LeL.refl _) ?_
   refine wT [(0, .s (mA p_l)), (1, .s (mA p_plan)), (5, .o 9), (6, vi s1.1), (7, .b 7 0), (8, vi x2)] [(9, .own 47 6 (mA s1.2)), (7, .box [vi x1.Id, vi x1.Ver, vi x1.From, vi x1.To, vi x1.Have, vi x1.Left])] Q6 J2 rfl ?_
   obtain ⟨v2, hv2, hB1⟩ := bindS hB1
   refine Ok.seqw ⟨Cat.tab [(0, .s (mA p_l)), (1, .s (mA p_plan)), (5, .o 9), (6, vi s1.1), (7, .b 7 0)], [(9, .own 47 6 (mA s1.2)), (7, .box [vi x1.Id, vi x1.Ver, vi x1.From, vi x1.To, vi x1.Have, vi v2])]⟩ ?_ ?_
   ·obtain ⟨v3, hv3, hv2⟩ := bindS hv2
    refine Ok.seqw ⟨Cat.tab [(0, .s (mA p_l)), (1, .s (mA p_plan)), (5, .o 9), (6, vi s1.1), (7, .b 7 0), (8, vi x2), (34, vb v3)], [(9, .own 47 6 (mA s1.2)), (7, .box [vi x1.Id, vi x1.Ver, vi x1.From, vi x1.To, vi x1.Have, vi x1.Left])]⟩ ?_ ?_
    ·refine Ok.draw (m := 12) (MD := ⟨[]⟩) (CH := ⟨[]⟩) Tryz.tok Tryz.mixed (by kernel_rfl) ?_
     refine ⟨_, rfl, _, rfl, _, rfl, ?_⟩
     obtain ⟨c1, hg1, hv3⟩ := bindS hv3
     refine Br.ite hg1 (fun hb hg1 => ?_) fun hb hg1 => ?_
     ·obtain ⟨x3, hx3, hg1⟩ := bindS hg1
      refine ⟨_, rfl, _, rfl, _, ⟨_, idx_nat hx3, _, idx_row hx3, rfl⟩, _, rfl, _, ⟨_, rfl, rfl⟩, _, rfl, _, ⟨_, rfl, rfl⟩, _, rfl, ?_⟩
      cases hg1
      refine ⟨_, rfl, ?_⟩
      refine ⟨Q0, ?_⟩
      cases hv3
      exact wt Q7 J2 rfl
     cases hg1
     refine ⟨_, rfl, ?_⟩
     refine ⟨Q0, ?_⟩
     cases hv3
     exact wt Q7 J2 rfl
    refine cn 34 (v3) rfl hv2 (fun hb hv2 => ?_) fun hb hv2 => ?_
    ·refine Ok.draw (m := 9) (MD := ⟨[]⟩) (CH := ⟨[]⟩) Tryz.tok Tryz.mixed (by kernel_rfl) ?_
     obtain ⟨x4, hx4, hv2⟩ := bindS hv2
     refine ⟨_, rfl, _, ⟨_, rfl, rfl⟩, _, rfl, _, rfl, _, ⟨_, idx_nat hx4, _, idx_row hx4, rfl⟩, _, rfl, _, ⟨_, rfl, rfl⟩, _, ⟨_, rfl, rfl⟩, _, rfl, Q0, _, rfl, ?_⟩
     cases hv2
     exact wt Q5 J2 rfl
    refine sk ?_
    cases hv2
    exact wt Q5 J2 rfl
   refine rg ?_
   obtain ⟨hc1, hB1⟩ := chk_some hB1
   refine ⟨_, rfl, Or.inl ⟨rowsLen_map (f := c_api_Job) (n := 6) (fun _ => rfl) ([(⟨x1.Id, x1.Ver, x1.From, x1.To, x1.Have, v2⟩ : api_Job)]), app_b2 (f := c_api_Job) (l := s1.2) (l' := [(⟨x1.Id, x1.Ver, x1.From, x1.To, x1.Have, v2⟩ : api_Job)]) hc1, _, (List.map_append (f := c_api_Job) (l₁ := s1.2) (l₂ := [(⟨x1.Id, x1.Ver, x1.From, x1.To, x1.Have, v2⟩ : api_Job)])).symm, ?_⟩⟩
   refine wT [(0, .s (mA p_l)), (1, .s (mA p_plan)), (5, .o 9), (6, vi s1.1)] [(9, .own 47 6 (mA (s1.2 ++ [(⟨x1.Id, x1.Ver, x1.From, x1.To, x1.Have, v2⟩ : api_Job)])))] Q4 J1 rfl ?_
   refine rg ?_
   obtain ⟨hc2, hB1⟩ := chk_some hB1
   refine (Or.inl ⟨hc2, ?_⟩)
   exact ⟨_, sj hB1, wt Q4 J1 rfl⟩
  refine xt ?_
  have hB1 := out_ret hB1 hy1
  cases hB1
  exact wt Q1 J1 rfl
 refine sg ?_
 refine wT [(4, .o 9)] [(9, .own 47 6 (mA v1))] Q1 J1 rfl ?_
 refine rt ?_
 cases h
 exact (.inr ⟨_, rfl, rfl⟩)
theorem w_ref28N3 {p_l} {p_plan} {r} (h : ref28_Renew p_l p_plan = some r) : Pure Tryz.prog 34 [(.s (mA p_l)), (.s (mA p_plan))] (.s (mA r)) := (wo_ref28N1 h).pure
theorem w_ref28N5 {p_l} {p_budget} {r} (h : ref28_Step p_l p_budget = some r) : Pure Tryz.prog 33 [(.s (mA p_l)), (vi p_budget)] (.t [(.s (mA r.1)), (.s (mA r.2))]) := by
 refine po Tryz.tok 51 Tryz.func33 (by kernel_rfl) rfl rfl rfl ?_
 unfold ref28_Step at h
 refine wE [(0, .s (mA p_l)), (1, vi p_budget)] Q2 ?_
 refine sg ?_
 refine wE [(0, .s (mA p_l)), (1, vi p_budget)] Q2 ?_
 refine sg ?_
 refine Or.inr ?_
 refine wT [(0, .s (mA p_l)), (1, vi p_budget), (6, .o 12)] [(12, .own 47 6 (mA ([] : List api_Job)))] Q3 J1 rfl ?_
 refine sg ?_
 refine Or.inr ?_
 refine wT [(0, .s (mA p_l)), (1, vi p_budget), (6, .o 12), (7, .o 13)] [(12, .own 47 6 (mA ([] : List api_Job))), (13, .own 47 6 (mA ([] : List api_Job)))] Q4 J2 rfl ?_
 refine sg ?_
 refine ⟨_, rfl, ?_⟩
 refine wT [(0, .s (mA p_l)), (6, .o 12), (7, .o 13), (8, vi (max p_budget (0)))] [(12, .own 47 6 (mA ([] : List api_Job))), (13, .own 47 6 (mA ([] : List api_Job)))] Q4 J2 rfl ?_
 obtain ⟨v1, hv1, h⟩ := bindS h
 refine Ok.seqw ⟨Cat.tab [(6, .o 12), (7, .o 13)], [(12, .own 47 6 (mA v1.1)), (13, .own 47 6 (mA v1.2))]⟩ ?_ ?_
 ·refine sg ?_
  refine wT [(0, .s (mA p_l)), (6, .o 12), (7, .o 13), (8, vi (max p_budget (0))), (9, vi (0))] [(12, .own 47 6 (mA ([] : List api_Job))), (13, .own 47 6 (mA ([] : List api_Job)))] Q5 J2 rfl ?_
  refine bl ?_
  refine Ok.loop (fun (s1 : Int × Int × (List api_Job) × (List api_Job)) => ⟨Cat.tab [(0, .s (mA p_l)), (6, .o 12), (7, .o 13), (8, vi s1.1), (9, vi s1.2.1)], [(12, .own 47 6 (mA s1.2.2.1)), (13, .own 47 6 (mA s1.2.2.2))]⟩) (ref28N7 p_l) (s0 := ((max p_budget (0)), 0, ([] : List api_Job), ([] : List api_Job))) hv1 (wt Q5 ⟨⟨_, rfl, .refl _⟩, ⟨_, rfl, .refl _⟩, Q0⟩ rfl) ?_
  intro s1 y1 hB1 hy1
  unfold ref28N7 at hB1
  refine sq ?_
  refine sg ?_
  refine ⟨_, List.length_map _, fun _ => ?_⟩
  refine wT [(0, .s (mA p_l)), (6, .o 12), (7, .o 13), (8, vi s1.1), (9, vi s1.2.1), (19, vb (decide (s1.2.1 < (p_l.length : Int))))] [(12, .own 47 6 (mA s1.2.2.1)), (13, .own 47 6 (mA s1.2.2.2))] Q6 J2 rfl ?_
  refine cn 19 (decide (s1.2.1 < (p_l.length : Int))) rfl hB1 (fun hb hB1 => ?_) fun hb hB1 => ?_
  ·refine sk ?_
   obtain ⟨v2, hv2, hB1⟩ := bindS hB1
   refine Ok.seqw ⟨Cat.tab [(0, .s (mA p_l)), (6, .o 12), (7, .o 13), (8, vi v2.1), (9, vi s1.2.1)], [(12, .own 47 6 (mA v2.2.1)), (13, .own 47 6 (mA v2.2.2))]⟩ ?_ ?_
   ·refine bl ?_
    refine sg ?_
    obtain ⟨x1, hx1, hv2⟩ := bindS hv2
    refine ⟨_, idx_nat hx1, _, idx_row hx1, _, rfl, _, rfl, ?_⟩
    refine wT [(0, .s (mA p_l)), (6, .o 12), (7, .o 13), (8, vi s1.1), (9, vi s1.2.1), (10, .b 10 0)] [(12, .own 47 6 (mA s1.2.2.1)), (13, .own 47 6 (mA s1.2.2.2)), (10, .box [vi x1.Id, vi x1.Ver, vi x1.From, vi x1.To, vi x1.Have, vi x1.Left])] Q6 J3 rfl ?_
    refine sg ?_
    refine ⟨_, rfl, _, rfl, ?_⟩
    refine wT [(0, .s (mA p_l)), (6, .o 12), (7, .o 13), (8, vi s1.1), (9, vi s1.2.1), (10, .b 10 0), (11, vi (min s1.1 x1.Left))] [(12, .own 47 6 (mA s1.2.2.1)), (13, .own 47 6 (mA s1.2.2.2)), (10, .box [vi x1.Id, vi x1.Ver, vi x1.From, vi x1.To, vi x1.Have, vi x1.Left])] Q7 J3 rfl ?_
    refine sg ?_
    obtain ⟨hc1, hv2⟩ := chk_some hv2
    refine (Or.inl ⟨hc1, ?_⟩)
    refine wT [(0, .s (mA p_l)), (6, .o 12), (7, .o 13), (8, vi (s1.1 - (min s1.1 x1.Left))), (9, vi s1.2.1), (10, .b 10 0), (11, vi (min s1.1 x1.Left))] [(12, .own 47 6 (mA s1.2.2.1)), (13, .own 47 6 (mA s1.2.2.2)), (10, .box [vi x1.Id, vi x1.Ver, vi x1.From, vi x1.To, vi x1.Have, vi x1.Left])] Q7 J3 rfl ?_
    refine sg ?_
    obtain ⟨hc2, hv2⟩ := chk_some hv2
    refine ⟨_, rfl, (Or.inl ⟨hc2, _, rfl, ?_⟩)⟩
    refine wT [(0, .s (mA p_l)), (6, .o 12), (7, .o 13), (8, vi (s1.1 - (min s1.1 x1.Left))), (9, vi s1.2.1), (10, .b 10 0)] [(12, .own 47 6 (mA s1.2.2.1)), (13, .own 47 6 (mA s1.2.2.2)), (10, .box [vi x1.Id, vi x1.Ver, vi x1.From, vi x1.To, vi x1.Have, vi (x1.Left - (min s1.1 x1.Left))])] Q6 J3 rfl ?_
    refine sg ?_
    refine ⟨_, rfl, ?_⟩
    refine wT [(0, .s (mA p_l)), (6, .o 12), (7, .o 13), (8, vi (s1.1 - (min s1.1 x1.Left))), (9, vi s1.2.1), (10, .b 10 0), (40, vb (decide ((x1.Left - (min s1.1 x1.Left)) > 0)))] [(12, .own 47 6 (mA s1.2.2.1)), (13, .own 47 6 (mA s1.2.2.2)), (10, .box [vi x1.Id, vi x1.Ver, vi x1.From, vi x1.To, vi x1.Have, vi (x1.Left - (min s1.1 x1.Left))])] Q7 J3 rfl ?_
    refine cn 40 (decide ((x1.Left - (min s1.1 x1.Left)) > 0)) rfl hv2 (fun hb hv2 => ?_) fun hb hv2 => ?_
    ·refine rg ?_
     obtain ⟨hc3, hv2⟩ := chk_some hv2
     refine ⟨_, rfl, Or.inl ⟨rowsLen_map (f := c_api_Job) (n := 6) (fun _ => rfl) ([(⟨x1.Id, x1.Ver, x1.From, x1.To, x1.Have, (x1.Left - (min s1.1 x1.Left))⟩ : api_Job)]), app_b2 (f := c_api_Job) (l := s1.2.2.1) (l' := [(⟨x1.Id, x1.Ver, x1.From, x1.To, x1.Have, (x1.Left - (min s1.1 x1.Left))⟩ : api_Job)]) hc3, _, (List.map_append (f := c_api_Job) (l₁ := s1.2.2.1) (l₂ := [(⟨x1.Id, x1.Ver, x1.From, x1.To, x1.Have, (x1.Left - (min s1.1 x1.Left))⟩ : api_Job)])).symm, ?_⟩⟩
     cases hv2
     exact wt Q5 J2 rfl
    refine rg ?_
    obtain ⟨hc4, hv2⟩ := chk_some hv2
    refine ⟨_, rfl, Or.inl ⟨rowsLen_map (f := c_api_Job) (n := 6) (fun _ => rfl) ([(⟨x1.Id, x1.Ver, x1.From, x1.To, x1.Have, (x1.Left - (min s1.1 x1.Left))⟩ : api_Job)]), app_b2 (f := c_api_Job) (l := s1.2.2.2) (l' := [(⟨x1.Id, x1.Ver, x1.From, x1.To, x1.Have, (x1.Left - (min s1.1 x1.Left))⟩ : api_Job)]) hc4, _, (List.map_append (f := c_api_Job) (l₁ := s1.2.2.2) (l₂ := [(⟨x1.Id, x1.Ver, x1.From, x1.To, x1.Have, (x1.Left - (min s1.1 x1.Left))⟩ : api_Job)])).symm, ?_⟩⟩
    cases hv2
    exact wt Q5 J2 rfl
   refine rg ?_
   obtain ⟨hc5, hB1⟩ := chk_some hB1
   refine (Or.inl ⟨hc5, ?_⟩)
   exact ⟨_, sj hB1, wt Q5 J2 rfl⟩
  refine xt ?_
  have hB1 := out_ret hB1 hy1
  cases hB1
  exact wt Q2 J2 rfl
 refine sg ?_
 refine wT [(4, .o 12), (5, .o 13)] [(12, .own 47 6 (mA v1.1)), (13, .own 47 6 (mA v1.2))] Q2 J2 rfl ?_
 refine rt ?_
 cases h
 exact (Fz.t (.cons (Fz.o rfl) (.cons (Fz.o rfl) .nil)))
theorem w_ref28N4 {p_disks} {p_chains} {p_l} {p_budget} {r} (h : ref28_Round p_disks p_chains p_l p_budget = some r) : Pure Tryz.prog 12 [(.s (mC p_disks)), (.s (mD p_chains)), (.s (mA p_l)), (vi p_budget)] (.t [(.s (mC r.1)), (.s (mA r.2.1)), (.s (mA r.2.2))]) := by
 refine po Tryz.tok 41 Tryz.func12 (by kernel_rfl) rfl rfl rfl ?_
 unfold ref28_Round at h
 refine wE [(0, .s (mC p_disks)), (1, .s (mD p_chains)), (2, .s (mA p_l)), (3, vi p_budget)] Q4 ?_
 refine sg ?_
 refine wE [(0, .s (mC p_disks)), (1, .s (mD p_chains)), (2, .s (mA p_l)), (3, vi p_budget)] Q4 ?_
 refine sg ?_
 obtain ⟨x1, hx1, h⟩ := bindS h
 refine CallOk.call (w_ref27N3 hx1) (LeL.refl _) ?_
 refine wE [(0, .s (mC p_disks)), (2, .s (mA p_l)), (3, vi p_budget), (11, .s (mA x1.1))] Q4 ?_
 refine sg ?_
 obtain ⟨x2, hx2, h⟩ := bindS h
 refine CallOk.call (w_ref28N2 hx2) (LeL.refl _) ?_
 obtain ⟨x3, hx3, h⟩ := bindS h
 refine CallOk.call (w_ref28N3 hx3) (LeL.refl _) ?_
 obtain ⟨x4, hx4, h⟩ := bindS h
 refine CallOk.call (w_ref28N5 hx4) (LeL.refl _) ?_
 refine wE [(0, .s (mC p_disks)), (13, .s (mA x4.1)), (14, .s (mA x4.2))] Q3 ?_
 refine sg ?_
 obtain ⟨x5, hx5, h⟩ := bindS h
 refine CallOk.call (w_ref28_Do hx5) (LeL.refl _) ?_
 refine wE [(13, .s (mA x4.1)), (15, .s (mC x5.1)), (16, .s (mA x5.2))] Q3 ?_
 refine sg ?_
 refine wE [(8, .s (mC x5.1)), (9, .s (mA x4.1)), (10, .s (mA x5.2))] Q3 ?_
 refine rt ?_
 cases h
 exact (Fz.t (.cons Fz.s (.cons Fz.s (.cons Fz.s .nil))))
theorem w_ref25N3 {p_a} {p_b} {r} (h : ref25_pages p_a p_b = some r) : Pure Tryz.prog 62 [(.s (mB p_a)), (.s (mB p_b))] (vb r) := by
 refine po Tryz.tok 42 Tryz.func62 (by kernel_rfl) rfl rfl rfl ?_
 unfold ref25_pages at h
 refine wE [(0, .s (mB p_a)), (1, .s (mB p_b))] Q2 ?_
 refine sg ?_
 refine wE [(0, .s (mB p_a)), (1, .s (mB p_b))] Q2 ?_
 refine sq ?_
 refine sg ?_
 refine ⟨_, List.length_map _, fun _ => ⟨_, List.length_map _, fun _ => ?_⟩⟩
 refine wE [(0, .s (mB p_a)), (1, .s (mB p_b)), (10, vb ((p_a.length : Int) != (p_b.length : Int)))] Q3 ?_
 refine cn 10 ((p_a.length : Int) != (p_b.length : Int)) rfl h (fun hb h => ?_) fun hb h => ?_
 ·refine sg ?_
  refine wE [(4, vb false)] Q1 ?_
  refine rt ?_
  cases h
  exact Fz.v
 refine sk ?_
 refine Ok.seqj (fun v1 => ⟨Cat.tab [], []⟩) (fun v1 => ref25N3 v1 = some r) ?_ ?_
 ·refine sg ?_
  refine wE [(0, .s (mB p_a)), (1, .s (mB p_b)), (5, vi (0))] Q3 ?_
  refine bl ?_
  refine Ok.loop (fun (s1 : Int) => ⟨Cat.tab [(0, .s (mB p_a)), (1, .s (mB p_b)), (5, vi s1)], []⟩) (ref25N2 p_a p_b) (s0 := 0) h (wt Q3 Q0 rfl) ?_
  intro s1 y1 hB1 hy1
  unfold ref25N2 at hB1
  refine sq ?_
  refine sg ?_
  refine ⟨_, List.length_map _, fun _ => ?_⟩
  refine wE [(0, .s (mB p_a)), (1, .s (mB p_b)), (5, vi s1), (14, vb (decide (s1 < (p_a.length : Int))))] Q4 ?_
  refine cn 14 (decide (s1 < (p_a.length : Int))) rfl hB1 (fun hb hB1 => ?_) fun hb hB1 => ?_
  ·refine sk ?_
   refine sq ?_
   refine bl ?_
   obtain ⟨v2, hv2, hB1⟩ := bindS hB1
   refine Ok.seqw ⟨Cat.tab [(0, .s (mB p_a)), (1, .s (mB p_b)), (5, vi s1), (41, vb v2)], []⟩ ?_ ?_
   ·refine Ok.draw (m := 25) (MD := ⟨[]⟩) (CH := ⟨[]⟩) Tryz.tok Tryz.mixed (by kernel_rfl) ?_
    obtain ⟨x1, hx1, hv2⟩ := bindS hv2
    obtain ⟨x2, hx2, hv2⟩ := bindS hv2
    refine ⟨_, rfl, _, rfl, _, ⟨_, idx_nat hx1, _, idx_row hx1, rfl⟩, _, rfl, _, ⟨_, rfl, rfl⟩, _, rfl, _, rfl, _, ⟨_, idx_nat hx2, _, idx_row hx2, rfl⟩, _, rfl, _, ⟨_, rfl, rfl⟩, _, rfl, _, rfl, ?_⟩
    obtain ⟨c1, hg1, hv2⟩ := bindS hv2
    refine Br.itf hg1 (fun hb hg1 => ?_) fun hb hg1 => ?_
    ·cases hg1
     refine ⟨_, rfl, ?_⟩
     refine ⟨Q0, ?_⟩
     cases hv2
     exact wt Q4 Q0 rfl
    obtain ⟨x3, hx3, hg1⟩ := bindS hg1
    obtain ⟨x4, hx4, hg1⟩ := bindS hg1
    obtain ⟨x5, hx5, hg1⟩ := bindS hg1
    refine ⟨_, rfl, _, rfl, _, ⟨_, idx_nat hx3, _, idx_row hx3, rfl⟩, _, rfl, _, ⟨_, rfl, rfl⟩, _, rfl, _, rfl, _, ⟨_, idx_nat hx4, _, idx_row hx4, rfl⟩, _, rfl, _, ⟨_, rfl, rfl⟩, _, ⟨_, .of_pure (w_ref02N2 hx5) (LeL.refl _), rfl⟩, _, rfl, ?_⟩
    cases hg1
    refine ⟨_, rfl, ?_⟩
    refine ⟨Q0, ?_⟩
    cases hv2
    exact wt Q4 Q0 rfl
   refine cn 41 (v2) rfl hB1 (fun hb hB1 => ?_) fun hb hB1 => ?_
   ·refine sg ?_
    refine wE [(4, vb false)] Q1 ?_
    refine rt ?_
    have hB1 := out_ret hB1 hy1
    cases hB1
    exact Fz.v
   refine sk ?_
   refine rg ?_
   obtain ⟨hc1, hB1⟩ := chk_some hB1
   refine (Or.inl ⟨hc1, ?_⟩)
   exact ⟨_, sj hB1, wt Q3 Q0 rfl⟩
  refine xt ?_
  have hB1 := out_ret hB1 hy1
  exact ⟨_, hB1, wt Q0 Q0 rfl⟩
 intro v1 h
 unfold ref25N3 at h
 refine sg ?_
 refine wE [(4, vb true)] Q1 ?_
 refine rt ?_
 cases h
 exact Fz.v
theorem w_ref25N2 {p_a} {p_b} {r} (h : ref25N1 p_a p_b = some r) : Pure Tryz.prog 35 [(.a [(.s (mB p_a.Synced)), (.s (mB p_a.Loose)), (vb p_a.Down)]), (.a [(.s (mB p_b.Synced)), (.s (mB p_b.Loose)), (vb p_b.Down)])] (vb r) := by
 refine po Tryz.tok 24 Tryz.func35 (by kernel_rfl) rfl rfl rfl ?_
 unfold ref25N1 at h
 refine wE [(0, .a [.s (mB p_a.Synced), .s (mB p_a.Loose), vb p_a.Down]), (1, .a [.s (mB p_b.Synced), .s (mB p_b.Loose), vb p_b.Down])] Q2 ?_
 refine sg ?_
 refine wT [(2, .b 2 0), (3, .b 3 0)] [(2, .box [.s (mB p_a.Synced), .s (mB p_a.Loose), vb p_a.Down]), (3, .box [.s (mB p_b.Synced), .s (mB p_b.Loose), vb p_b.Down])] Q2 J2 rfl ?_
 obtain ⟨v1, hv1, h⟩ := bindS h
 refine Ok.seqw ⟨Cat.tab [(4, vb v1)], []⟩ ?_ ?_
 ·refine rg ?_
  obtain ⟨x1, hx1, hv1⟩ := bindS hv1
  refine ⟨_, rfl, _, rfl, ?_⟩
  refine CallOk.call (w_ref25N3 hx1) (LeL.refl _) ?_
  obtain ⟨c1, hg1, hv1⟩ := bindS hv1
  refine Br.ite hg1 (fun hb hg1 => ?_) fun hb hg1 => ?_
  ·obtain ⟨x2, hx2, hg1⟩ := bindS hg1
   refine ⟨_, rfl, _, rfl, ?_⟩
   refine CallOk.call (w_ref25N3 hx2) (LeL.refl _) ?_
   cases hg1
   obtain ⟨c2, hg2, hv1⟩ := bindS hv1
   refine Br.ite hg2 (fun hb hg2 => ?_) fun hb hg2 => ?_
   ·refine ⟨_, rfl, _, rfl, ?_⟩
    cases hg2
    cases hv1
    exact wt Q1 Q0 rfl
   cases hg2
   cases hv1
   exact wt Q1 Q0 rfl
  cases hg1
  obtain ⟨c2, hg3, hv1⟩ := bindS hv1
  replace hg3 := iteF hg3
  cases hg3
  cases hv1
  exact wt Q1 Q0 rfl
 refine rt ?_
 cases h
 exact Fz.v
theorem w_ref27N5 {p_a} {p_b} {r} (h : ref27N12 p_a p_b = some r) : Pure Tryz.prog 13 [(.s (mC p_a)), (.s (mC p_b))] (vb r) := by
 refine po Tryz.tok 27 Tryz.func13 (by kernel_rfl) rfl rfl rfl ?_
 unfold ref27N12 at h
 refine wE [(0, .s (mC p_a)), (1, .s (mC p_b))] Q2 ?_
 refine sg ?_
 refine wE [(0, .s (mC p_a)), (1, .s (mC p_b))] Q2 ?_
 refine sq ?_
 refine sg ?_
 refine ⟨_, List.length_map _, fun _ => ⟨_, List.length_map _, fun _ => ?_⟩⟩
 refine wE [(0, .s (mC p_a)), (1, .s (mC p_b)), (10, vb ((p_a.length : Int) != (p_b.length : Int)))] Q3 ?_
 refine cn 10 ((p_a.length : Int) != (p_b.length : Int)) rfl h (fun hb h => ?_) fun hb h => ?_
 ·refine sg ?_
  refine wE [(4, vb false)] Q1 ?_
  refine rt ?_
  cases h
  exact Fz.v
 refine sk ?_
 refine Ok.seqj (fun v1 => ⟨Cat.tab [], []⟩) (fun v1 => ref27N14 v1 = some r) ?_ ?_
 ·refine sg ?_
  refine wE [(0, .s (mC p_a)), (1, .s (mC p_b)), (5, vi (0))] Q3 ?_
  refine bl ?_
  refine Ok.loop (fun (s1 : Int) => ⟨Cat.tab [(0, .s (mC p_a)), (1, .s (mC p_b)), (5, vi s1)], []⟩) (ref27N13 p_a p_b) (s0 := 0) h (wt Q3 Q0 rfl) ?_
  intro s1 y1 hB1 hy1
  unfold ref27N13 at hB1
  refine sq ?_
  refine sg ?_
  refine ⟨_, List.length_map _, fun _ => ?_⟩
  refine wE [(0, .s (mC p_a)), (1, .s (mC p_b)), (5, vi s1), (14, vb (decide (s1 < (p_a.length : Int))))] Q4 ?_
  refine cn 14 (decide (s1 < (p_a.length : Int))) rfl hB1 (fun hb hB1 => ?_) fun hb hB1 => ?_
  ·refine sk ?_
   refine sq ?_
   refine bl ?_
   refine sq ?_
   refine Ok.draw (m := 10) (MD := ⟨[]⟩) (CH := ⟨[]⟩) Tryz.tok Tryz.mixed (by kernel_rfl) ?_
   obtain ⟨x1, hx1, hB1⟩ := bindS hB1
   obtain ⟨x2, hx2, hB1⟩ := bindS hB1
   obtain ⟨x3, hx3, hB1⟩ := bindS hB1
   refine ⟨_, rfl, _, rfl, _, ⟨_, idx_nat hx1, _, idx_row hx1, rfl⟩, _, ⟨_, rfl, rfl⟩, _, rfl, _, rfl, _, ⟨_, idx_nat hx2, _, idx_row hx2, rfl⟩, _, ⟨_, rfl, rfl⟩, _, ⟨_, .of_pure (w_ref25N2 hx3) (LeL.refl _), rfl⟩, _, rfl, Q0, ?_⟩
   refine wE [(0, .s (mC p_a)), (1, .s (mC p_b)), (5, vi s1), (26, vb (!x3))] Q4 ?_
   refine cn 26 (!x3) rfl hB1 (fun hb hB1 => ?_) fun hb hB1 => ?_
   ·refine sg ?_
    refine wE [(4, vb false)] Q1 ?_
    refine rt ?_
    have hB1 := out_ret hB1 hy1
    cases hB1
    exact Fz.v
   refine sk ?_
   refine rg ?_
   obtain ⟨hc1, hB1⟩ := chk_some hB1
   refine (Or.inl ⟨hc1, ?_⟩)
   exact ⟨_, sj hB1, wt Q3 Q0 rfl⟩
  refine xt ?_
  have hB1 := out_ret hB1 hy1
  exact ⟨_, hB1, wt Q0 Q0 rfl⟩
 intro v1 h
 unfold ref27N14 at h
 refine sg ?_
 refine wE [(4, vb true)] Q1 ?_
 refine rt ?_
 cases h
 exact Fz.v
theorem w_law28N1 [Off] {p_disks} {p_chains} {p_x} {p_budget} {r} (h : law28N1 p_disks p_chains p_x p_budget = some r) : Pure Tryz.prog 3 [(.s (mC p_disks)), (.s (mD p_chains)), (.s (mA p_x)), (vi p_budget)] (vb r) := by
 refine po Tryz.tok 94 Tryz.func3 (by kernel_rfl) rfl rfl rfl ?_
 unfold law28N1 at h
 refine wE [(0, .s (mC p_disks)), (1, .s (mD p_chains)), (2, .s (mA p_x)), (3, vi p_budget)] Q4 ?_
 refine sg ?_
 refine wE [(0, .s (mC p_disks)), (1, .s (mD p_chains)), (2, .s (mA p_x)), (3, vi p_budget)] Q4 ?_
 refine sg ?_
 obtain ⟨x1, hx1, h⟩ := bindS h
 refine CallOk.call (w_law28N2 hx1) (LeL.refl _) ?_
 refine wE [(0, .s (mC p_disks)), (1, .s (mD p_chains)), (2, .s (mA p_x)), (3, vi p_budget), (9, vb x1)] Q5 ?_
 refine sq ?_
 obtain ⟨v1, hv1, h⟩ := bindS h
 refine Ok.seqw ⟨Cat.tab [(0, .s (mC p_disks)), (1, .s (mD p_chains)), (2, .s (mA p_x)), (3, vi p_budget), (9, vb x1), (34, vb v1)], []⟩ ?_ ?_
 ·refine rg ?_
  obtain ⟨x2, hx2, hv1⟩ := bindS hv1
  refine CallOk.call (w_law27N1 hx2) (LeL.refl _) ?_
  obtain ⟨c1, hg1, hv1⟩ := bindS hv1
  refine Br.itf hg1 (fun hb hg1 => ?_) fun hb hg1 => ?_
  ·cases hg1
   obtain ⟨c2, hg2, hv1⟩ := bindS hv1
   replace hg2 := iteT hg2
   cases hg2
   cases hv1
   exact wt Q6 Q0 rfl
  obtain ⟨x3, hx3, hg1⟩ := bindS hg1
  refine CallOk.call (w_ref27N4 hx3) (LeL.refl _) ?_
  cases hg1
  obtain ⟨c2, hg3, hv1⟩ := bindS hv1
  refine Br.itf hg3 (fun hb hg3 => ?_) fun hb hg3 => ?_
  ·cases hg3
   cases hv1
   exact wt Q6 Q0 rfl
  refine ⟨_, List.length_map _, fun _ => ?_⟩
  cases hg3
  cases hv1
  exact wt Q6 Q0 rfl
 refine cn 34 (v1) rfl h (fun hb h => ?_) fun hb h => ?_
 ·refine sg ?_
  refine wE [(8, vb x1)] Q1 ?_
  refine rt ?_
  cases h
  exact Fz.v
 refine sk ?_
 refine sg ?_
 obtain ⟨x4, hx4, h⟩ := bindS h
 refine CallOk.call (w_mend_Do hx4) (LeL.refl _) ?_
 refine wE [(0, .s (mC p_disks)), (1, .s (mD p_chains)), (2, .s (mA p_x)), (3, vi p_budget), (9, vb x1), (10, .s (mC x4.1)), (11, .s (mA x4.2))] Q7 ?_
 refine sg ?_
 obtain ⟨x5, hx5, h⟩ := bindS h
 refine CallOk.call (w_ref28_Do hx5) (LeL.refl _) ?_
 refine wE [(0, .s (mC p_disks)), (1, .s (mD p_chains)), (2, .s (mA p_x)), (3, vi p_budget), (9, vb x1), (10, .s (mC x4.1)), (11, .s (mA x4.2)), (12, .s (mC x5.1)), (13, .s (mA x5.2))] ⟨lr, Q8⟩ ?_
 refine sg ?_
 obtain ⟨x6, hx6, h⟩ := bindS h
 refine CallOk.call (w_ref28N2 hx6) (LeL.refl _) ?_
 refine wE [(0, .s (mC p_disks)), (1, .s (mD p_chains)), (3, vi p_budget), (9, vb x1), (10, .s (mC x4.1)), (11, .s (mA x4.2)), (12, .s (mC x5.1)), (13, .s (mA x5.2)), (14, .s (mA x6))] ⟨lr, Q8⟩ ?_
 refine sg ?_
 obtain ⟨x7, hx7, h⟩ := bindS h
 refine CallOk.call (w_mendN4 hx7) (LeL.refl _) ?_
 refine wE [(0, .s (mC p_disks)), (1, .s (mD p_chains)), (3, vi p_budget), (9, vb x1), (10, .s (mC x4.1)), (11, .s (mA x4.2)), (12, .s (mC x5.1)), (13, .s (mA x5.2)), (14, .s (mA x6)), (15, .s (mC x7.1)), (16, .s (mA x7.2.1)), (17, .s (mA x7.2.2))] ⟨lr, lr, lr, lr, Q8⟩ ?_
 refine sg ?_
 obtain ⟨x8, hx8, h⟩ := bindS h
 refine CallOk.call (w_ref28N4 hx8) (LeL.refl _) ?_
 refine wE [(9, vb x1), (10, .s (mC x4.1)), (11, .s (mA x4.2)), (12, .s (mC x5.1)), (13, .s (mA x5.2)), (15, .s (mC x7.1)), (16, .s (mA x7.2.1)), (17, .s (mA x7.2.2)), (18, .s (mC x8.1)), (19, .s (mA x8.2.1)), (20, .s (mA x8.2.2))] ⟨lr, lr, lr, Q8⟩ ?_
 obtain ⟨v2, hv2, h⟩ := bindS h
 refine Ok.seqw ⟨Cat.tab [(8, vb v2)], []⟩ ?_ ?_
 ·refine rg ?_
  obtain ⟨c3, hg4, hv2⟩ := bindS hv2
  refine Br.ite hg4 (fun hb hg4 => ?_) fun hb hg4 => ?_
  ·obtain ⟨x9, hx9, hg4⟩ := bindS hg4
   refine CallOk.norm (L := [(11, .s (mA x4.2)), (13, .s (mA x5.2)), (15, .s (mC x7.1)), (16, .s (mA x7.2.1)), (17, .s (mA x7.2.2)), (18, .s (mC x8.1)), (19, .s (mA x8.2.1)), (20, .s (mA x8.2.2)), (69, .v (.bool true)), (70, .s (mC x4.1)), (71, .s (mC x5.1))]) (H' := []) (LeL.refl _) ⟨lr, lr, lr, Q8⟩ Q0 rfl (CallOk.call (w_ref27N5 hx9) (LeL.refl _) ?_)
   cases hg4
   obtain ⟨c4, hg5, hv2⟩ := bindS hv2
   refine Br.ite hg5 (fun hb hg5 => ?_) fun hb hg5 => ?_
   ·obtain ⟨x10, hx10, hg5⟩ := bindS hg5
    refine CallOk.norm (L := [(15, .s (mC x7.1)), (16, .s (mA x7.2.1)), (17, .s (mA x7.2.2)), (18, .s (mC x8.1)), (19, .s (mA x8.2.1)), (20, .s (mA x8.2.2)), (74, .v (.bool true)), (75, .s (mA x4.2)), (76, .s (mA x5.2))]) (H' := []) (LeL.refl _) ⟨lr, Q8⟩ Q0 rfl (CallOk.call (w_ref27N6 hx10) (LeL.refl _) ?_)
    cases hg5
    obtain ⟨c5, hg6, hv2⟩ := bindS hv2
    refine Br.ite hg6 (fun hb hg6 => ?_) fun hb hg6 => ?_
    ·obtain ⟨x11, hx11, hg6⟩ := bindS hg6
     refine CallOk.norm (L := [(16, .s (mA x7.2.1)), (17, .s (mA x7.2.2)), (19, .s (mA x8.2.1)), (20, .s (mA x8.2.2)), (79, .v (.bool true)), (80, .s (mC x7.1)), (81, .s (mC x8.1))]) (H' := []) (LeL.refl _) Q7 Q0 rfl (CallOk.call (w_ref27N5 hx11) (LeL.refl _) ?_)
     cases hg6
     obtain ⟨c6, hg7, hv2⟩ := bindS hv2
     refine Br.ite hg7 (fun hb hg7 => ?_) fun hb hg7 => ?_
     ·obtain ⟨x12, hx12, hg7⟩ := bindS hg7
      refine CallOk.norm (L := [(17, .s (mA x7.2.2)), (20, .s (mA x8.2.2)), (84, .v (.bool true)), (85, .s (mA x7.2.1)), (86, .s (mA x8.2.1))]) (H' := []) (LeL.refl _) Q5 Q0 rfl (CallOk.call (w_ref27N6 hx12) (LeL.refl _) ?_)
      cases hg7
      obtain ⟨c7, hg8, hv2⟩ := bindS hv2
      refine Br.ite hg8 (fun hb hg8 => ?_) fun hb hg8 => ?_
      ·obtain ⟨x13, hx13, hg8⟩ := bindS hg8
       refine CallOk.norm (L := [(89, .v (.bool true)), (90, .s (mA x7.2.2)), (91, .s (mA x8.2.2))]) (H' := []) (LeL.refl _) Q3 Q0 rfl (CallOk.call (w_ref27N6 hx13) (LeL.refl _) ?_)
       cases hg8
       cases hv2
       exact wt Q1 Q0 rfl
      cases hg8
      cases hv2
      exact wt Q1 Q0 rfl
     cases hg7
     obtain ⟨c7, hg9, hv2⟩ := bindS hv2
     replace hg9 := iteF hg9
     cases hg9
     cases hv2
     exact wt Q1 Q0 rfl
    cases hg6
    obtain ⟨c6, hg10, hv2⟩ := bindS hv2
    replace hg10 := iteF hg10
    cases hg10
    obtain ⟨c7, hg11, hv2⟩ := bindS hv2
    replace hg11 := iteF hg11
    cases hg11
    cases hv2
    exact wt Q1 Q0 rfl
   cases hg5
   obtain ⟨c5, hg12, hv2⟩ := bindS hv2
   replace hg12 := iteF hg12
   cases hg12
   obtain ⟨c6, hg13, hv2⟩ := bindS hv2
   replace hg13 := iteF hg13
   cases hg13
   obtain ⟨c7, hg14, hv2⟩ := bindS hv2
   replace hg14 := iteF hg14
   cases hg14
   cases hv2
   exact wt Q1 Q0 rfl
  cases hg4
  obtain ⟨c4, hg15, hv2⟩ := bindS hv2
  replace hg15 := iteF hg15
  cases hg15
  obtain ⟨c5, hg16, hv2⟩ := bindS hv2
  replace hg16 := iteF hg16
  cases hg16
  obtain ⟨c6, hg17, hv2⟩ := bindS hv2
  replace hg17 := iteF hg17
  cases hg17
  obtain ⟨c7, hg18, hv2⟩ := bindS hv2
  replace hg18 := iteF hg18
  cases hg18
  cases hv2
  exact wt Q1 Q0 rfl
 refine rt ?_
 cases h
 exact Fz.v
end Go.Proofs
