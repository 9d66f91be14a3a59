/- The walks of this seat beside the plain programs, part 3. No condition. -/
import Derived.Test.YtpohijpdclienabGreatXScrubRotEn
import Derived.Test.YtpohijpdclienabGreatXScrubRotWk0
import Derived.Test.YtpohijpdclienabGreatXScrubRotWk1
import Derived.Test.YtpohijpdclienabGreatXScrubRotWk2
namespace Go.Proofs
set_option linter.all false
open Go Go.Cat
variable [M : Mono]
set_option maxRecDepth 100000
theorem w_law27_done [Off] {p_disks} {p_l} {r} (h : law27_done p_disks p_l = some r) : Pure Tryz.prog 15 [(.s (mB p_disks)), (.s (mE p_l))] (.t [(.s (mB r.1)), (vb r.2)]) := by
 refine po Tryz.tok 35 Tryz.func15 (by kernel_rfl) rfl rfl rfl ?_
 unfold law27_done at h
 refine wE [(0, .s (mB p_disks)), (1, .s (mE p_l))] Q2 ?_
 refine sg ?_
 refine wE [(0, .s (mB p_disks)), (1, .s (mE p_l))] Q2 ?_
 refine Ok.seqj (fun v1 => ⟨Cat.tab [(0, .s (mB v1))], []⟩) (fun v1 => law27_done_J1 v1 = some r) ?_ ?_
 ·refine sg ?_
  refine wE [(0, .s (mB p_disks)), (1, .s (mE p_l)), (6, vi (0))] Q3 ?_
  refine bl ?_
  refine Ok.loop (fun (s1 : (List api_Disk) × Int) => ⟨Cat.tab [(0, .s (mB s1.1)), (1, .s (mE p_l)), (6, vi s1.2)], []⟩) (law27_done_B1 p_l) (s0 := (p_disks, 0)) h (wt Q3 Q0 rfl) ?_
  intro s1 y1 hB1 hy1
  unfold law27_done_B1 at hB1
  refine sq ?_
  refine sg ?_
  refine ⟨_, List.length_map _, fun _ => ?_⟩
  refine wE [(0, .s (mB s1.1)), (1, .s (mE p_l)), (6, vi s1.2), (12, vb (decide (s1.2 < (p_l.length : Int))))] Q4 ?_
  refine cn 12 (decide (s1.2 < (p_l.length : Int))) rfl hB1 (fun hb hB1 => ?_) fun hb hB1 => ?_
  ·refine sk ?_
   refine sq ?_
   refine bl ?_
   refine sg ?_
   obtain ⟨x1, hx1, hB1⟩ := bindS hB1
   obtain ⟨x2, hx2, hB1⟩ := bindS hB1
   refine ⟨_, idx_nat hx1, _, idx_row hx1, _, rfl, ?_⟩
   refine CallOk.call (w_scrub_Copy hx2) (LeL.refl _) ?_
   refine wE [(0, .s (mB s1.1)), (1, .s (mE p_l)), (6, vi s1.2), (7, .s (mB x2.1)), (8, vi x2.2)] Q5 ?_
   refine sq ?_
   obtain ⟨v2, hv2, hB1⟩ := bindS hB1
   refine Ok.seqw ⟨Cat.tab [(1, .s (mE p_l)), (6, vi s1.2), (7, .s (mB x2.1)), (32, vb v2)], []⟩ ?_ ?_
   ·refine rg ?_
    obtain ⟨c1, hg1, hv2⟩ := bindS hv2
    refine Br.itf hg1 (fun hb hg1 => ?_) fun hb hg1 => ?_
    ·cases hg1
     cases hv2
     exact wt Q4 Q0 rfl
    refine ⟨_, List.length_map _, fun _ => ⟨_, List.length_map _, fun _ => ?_⟩⟩
    cases hg1
    cases hv2
    exact wt Q4 Q0 rfl
   refine cn 32 (v2) rfl hB1 (fun hb hB1 => ?_) fun hb hB1 => ?_
   ·refine sg ?_
    refine wE [(4, .v (.slice none 0 0)), (5, vb false)] Q2 ?_
    refine rt ?_
    have hB1 := out_ret hB1 hy1
    cases hB1
    exact (Fz.t (.cons Fz.nil (.cons Fz.v .nil)))
   refine sk ?_
   refine rg ?_
   refine wE [(0, .s (mB x2.1)), (1, .s (mE p_l)), (6, vi s1.2)] Q3 ?_
   refine rg ?_
   obtain ⟨hc1, hB1⟩ := chk_some hB1
   refine (Or.inl ⟨hc1, ?_⟩)
   exact ⟨_, sj hB1, wt Q3 Q0 rfl⟩
  refine xt ?_
  have hB1 := out_ret hB1 hy1
  exact ⟨_, hB1, wt Q1 Q0 rfl⟩
 intro v1 h
 unfold law27_done_J1 at h
 refine sg ?_
 refine wE [(4, .s (mB v1)), (5, vb true)] Q2 ?_
 refine rt ?_
 cases h
 exact (Fz.t (.cons Fz.s (.cons Fz.v .nil)))
theorem w_law27_ScrubRot [Off] {p_id} {p_ver} {p_data} {p_many} {p_at} {p_bit} {r} (h : law27_ScrubRot p_id p_ver p_data p_many p_at p_bit = some r) : Pure Tryz.prog 3 [(vu p_id), (.v (.int .u16 p_ver)), (.s (mA p_data)), (vu p_many), (vu p_at), (.v (.int .u16 p_bit))] (vb r) := by
 refine po Tryz.tok 201 Tryz.func3 (by kernel_rfl) rfl rfl rfl ?_
 unfold law27_ScrubRot at h
 refine wE [(0, vu p_id), (1, .v (.int .u16 p_ver)), (2, .s (mA p_data)), (3, vu p_many), (4, vu p_at), (5, .v (.int .u16 p_bit))] Q6 ?_
 refine sg ?_
 refine wE [(0, vu p_id), (1, .v (.int .u16 p_ver)), (2, .s (mA p_data)), (3, vu p_many), (4, vu p_at), (5, .v (.int .u16 p_bit))] Q6 ?_
 refine sg ?_
 obtain ⟨x1, hx1, h⟩ := bindS h
 refine CallOk.call (w_law27_head hx1) (LeL.refl _) ?_
 refine wE [(0, vu p_id), (1, .v (.int .u16 p_ver)), (2, .s (mA p_data)), (3, vu p_many), (4, vu p_at), (5, .v (.int .u16 p_bit)), (13, vb x1)] Q7 ?_
 refine sg ?_
 obtain ⟨hc1, h⟩ := chk_some h
 refine ⟨_, wrap_of_u8 (k := .i64) (by decide) _, (by decide), _, rfl, (Or.inl ⟨hc1, ?_⟩)⟩
 refine wE [(0, vu p_id), (1, .v (.int .u16 p_ver)), (2, .s (mA p_data)), (4, vu p_at), (5, .v (.int .u16 p_bit)), (13, vb x1), (14, vi (1 + (Int.tmod (p_many.toNat : Int) (5))))] Q7 ?_
 refine sg ?_
 obtain ⟨hc2, h⟩ := chk_some h
 obtain ⟨x2, hx2, h⟩ := bindS h
 refine ⟨_, wrap_of_u8 (k := .i64) (by decide) _, (by decide), _, rfl, _, rfl, _, List.length_map _, fun _ => ⟨_, rfl, _, sl_nat hc2.1, Nat.zero_le _, sl_len hc2, rowsK (f := cU8) (K := 1) (fun _ => rfl) p_data, _, sl_take _ _ _, ?_⟩⟩
 refine CallOk.call (w_chunk_New hx2) (LeL.refl _) ?_
 refine ⟨_, rfl, ?_⟩
 refine wT [(4, vu p_at), (5, .v (.int .u16 p_bit)), (13, vb x1), (14, vi (1 + (Int.tmod (p_many.toNat : Int) (5)))), (15, .b 15 0)] [(15, .box [vi x2.Id, vi x2.Ver, .s (mA x2.Data), .s (mI x2.Sums)])] Q5 J1 rfl ?_
 refine sg ?_
 refine ⟨_, rfl, _, rfl, _, rfl, ?_⟩
 refine wT [(4, vu p_at), (5, .v (.int .u16 p_bit)), (13, vb x1), (14, vi (1 + (Int.tmod (p_many.toNat : Int) (5)))), (15, .b 15 0), (16, .b 16 0)] [(15, .box [vi x2.Id, vi x2.Ver, .s (mA x2.Data), .s (mI x2.Sums)]), (16, .box [vi x2.Id, vi x2.Ver, .v (.slice none 0 0)])] Q6 J2 rfl ?_
 refine sg ?_
 refine wT [(4, vu p_at), (5, .v (.int .u16 p_bit)), (13, vb x1), (14, vi (1 + (Int.tmod (p_many.toNat : Int) (5)))), (15, .b 15 0), (16, .b 16 0), (17, .v (.slice none 0 0))] [(15, .box [vi x2.Id, vi x2.Ver, .s (mA x2.Data), .s (mI x2.Sums)]), (16, .box [vi x2.Id, vi x2.Ver, .v (.slice none 0 0)])] Q7 J2 rfl ?_
 obtain ⟨v1, hv1, h⟩ := bindS h
 refine Ok.seqw ⟨Cat.tab [(4, vu p_at), (5, .v (.int .u16 p_bit)), (13, vb x1), (14, vi (1 + (Int.tmod (p_many.toNat : Int) (5)))), (15, .b 15 0), (16, .b 16 0), (17, .o 58)], [(15, .box [vi x2.Id, vi x2.Ver, .s (mA x2.Data), .s (mI x2.Sums)]), (16, .box [vi x2.Id, vi x2.Ver, .o 66]), (66, .own 3 1 (mI v1.2)), (58, .own 34 3 (mB v1.1))]⟩ ?_ ?_
 ·refine sg ?_
  refine wT [(4, vu p_at), (5, .v (.int .u16 p_bit)), (13, vb x1), (14, vi (1 + (Int.tmod (p_many.toNat : Int) (5)))), (15, .b 15 0), (16, .b 16 0), (17, .v (.slice none 0 0)), (18, vi (0))] [(15, .box [vi x2.Id, vi x2.Ver, .s (mA x2.Data), .s (mI x2.Sums)]), (16, .box [vi x2.Id, vi x2.Ver, .v (.slice none 0 0)])] Q8 J2 rfl ?_
  refine bl ?_
  refine Ok.loop (fun (s1 : Int × (List api_Disk) × (List Int)) => ⟨Cat.tab [(4, vu p_at), (5, .v (.int .u16 p_bit)), (13, vb x1), (14, vi (1 + (Int.tmod (p_many.toNat : Int) (5)))), (15, .b 15 0), (16, .b 16 0), (17, .o 58), (18, vi s1.1)], [(15, .box [vi x2.Id, vi x2.Ver, .s (mA x2.Data), .s (mI x2.Sums)]), (16, .box [vi x2.Id, vi x2.Ver, .o 66]), (66, .own 3 1 (mI s1.2.2)), (58, .own 34 3 (mB s1.2.1))]⟩) (law27_ScrubRot_B1 p_many x2) (s0 := (0, [], [])) hv1 ((Wk.own0 (t := 17) (id := 58) (E := 34) (K := 3) rfl rfl).trans ((Wk.ownb (b := 16) (q := 2) (id := 66) (E := 3) (K := 1) rfl rfl rfl).trans (wt Q8 ⟨⟨_, rfl, .refl _⟩, ⟨_, rfl, .refl _⟩, ⟨_, rfl, .refl _⟩, ⟨_, rfl, .refl _⟩, Q0⟩ rfl))) ?_
  intro s1 y1 hB1 hy1
  unfold law27_ScrubRot_B1 at hB1
  refine sq ?_
  refine sg ?_
  refine wT [(4, vu p_at), (5, .v (.int .u16 p_bit)), (13, vb x1), (14, vi (1 + (Int.tmod (p_many.toNat : Int) (5)))), (15, .b 15 0), (16, .b 16 0), (17, .o 58), (18, vi s1.1), (50, vb (decide (s1.1 < (1 + (Int.tmod (p_many.toNat : Int) (5))))))] [(15, .box [vi x2.Id, vi x2.Ver, .s (mA x2.Data), .s (mI x2.Sums)]), (16, .box [vi x2.Id, vi x2.Ver, .o 66]), (66, .own 3 1 (mI s1.2.2)), (58, .own 34 3 (mB s1.2.1))] ⟨lr, Q8⟩ J4 rfl ?_
  refine cn 50 (decide (s1.1 < (1 + (Int.tmod (p_many.toNat : Int) (5))))) rfl hB1 (fun hb hB1 => ?_) fun hb hB1 => ?_
  ·refine sk ?_
   refine sq ?_
   refine bl ?_
   refine sq ?_
   refine Ok.draw (m := 5) (MD := ⟨[]⟩) (CH := ⟨[]⟩) Tryz.tok Tryz.mixed (by kernel_rfl) ?_
   obtain ⟨x3, hx3, hB1⟩ := bindS hB1
   obtain ⟨x4, hx4, hB1⟩ := bindS hB1
   obtain ⟨hc3, hB1⟩ := chk_some hB1
   refine ⟨_, rfl, _, ⟨_, .of_pure (w_disk_New hx3) (LeL.refl _), rfl⟩, _, ⟨_, rfl, rfl⟩, _, ⟨_, .of_pure (w_law27_on hx4) (LeL.refl _), rfl⟩, _, rfl, Q0, rowsLen_map (f := c_api_Disk) (n := 3) (fun _ => rfl) ([x4]), app_b2 (f := c_api_Disk) (l := s1.2.1) (l' := [x4]) hc3, _, (List.map_append (f := c_api_Disk) (l₁ := s1.2.1) (l₂ := [x4])).symm, ?_⟩
   refine wT [(4, vu p_at), (5, .v (.int .u16 p_bit)), (13, vb x1), (14, vi (1 + (Int.tmod (p_many.toNat : Int) (5)))), (15, .b 15 0), (16, .b 16 0), (17, .o 58), (18, vi s1.1)] [(15, .box [vi x2.Id, vi x2.Ver, .s (mA x2.Data), .s (mI x2.Sums)]), (16, .box [vi x2.Id, vi x2.Ver, .o 66]), (66, .own 3 1 (mI s1.2.2)), (58, .own 34 3 (mB (s1.2.1 ++ [x4])))] Q8 J4 rfl ?_
   refine rg ?_
   obtain ⟨hc4, hB1⟩ := chk_some hB1
   obtain ⟨hc5, hB1⟩ := chk_some hB1
   obtain ⟨hc6, hB1⟩ := chk_some hB1
   refine ⟨_, rfl, (Or.inl ⟨hc4, (Or.inl ⟨hc5, Or.inl ⟨rowsLen_map (f := Go.Cat.encI) (n := 1) (fun _ => rfl) ([((1 + (Int.tmod (p_many.toNat : Int) (5))) - 1) - s1.1]), app_b2 (f := Go.Cat.encI) (l := s1.2.2) (l' := [((1 + (Int.tmod (p_many.toNat : Int) (5))) - 1) - s1.1]) hc6, _, (List.map_append (f := Go.Cat.encI) (l₁ := s1.2.2) (l₂ := [((1 + (Int.tmod (p_many.toNat : Int) (5))) - 1) - s1.1])).symm, _, rfl, ?_⟩⟩)⟩)⟩
   refine wT [(4, vu p_at), (5, .v (.int .u16 p_bit)), (13, vb x1), (14, vi (1 + (Int.tmod (p_many.toNat : Int) (5)))), (15, .b 15 0), (16, .b 16 0), (17, .o 58), (18, vi s1.1)] [(15, .box [vi x2.Id, vi x2.Ver, .s (mA x2.Data), .s (mI x2.Sums)]), (16, .box [vi x2.Id, vi x2.Ver, .o 66]), (66, .own 3 1 (mI (s1.2.2 ++ [((1 + (Int.tmod (p_many.toNat : Int) (5))) - 1) - s1.1]))), (58, .own 34 3 (mB (s1.2.1 ++ [x4])))] Q8 J4 rfl ?_
   refine rg ?_
   obtain ⟨hc7, hB1⟩ := chk_some hB1
   refine (Or.inl ⟨hc7, ?_⟩)
   exact ⟨_, sj hB1, wt Q8 J4 rfl⟩
  refine xt ?_
  have hB1 := out_ret hB1 hy1
  cases hB1
  exact wt Q7 J4 rfl
 refine sq ?_
 obtain ⟨v2, hv2, h⟩ := bindS h
 refine Ok.seqw ⟨Cat.tab [(4, vu p_at), (5, .v (.int .u16 p_bit)), (13, vb x1), (14, vi (1 + (Int.tmod (p_many.toNat : Int) (5)))), (15, .b 15 0), (16, .b 16 0), (17, .o 58), (80, vb v2)], [(15, .box [vi x2.Id, vi x2.Ver, .s (mA x2.Data), .s (mI x2.Sums)]), (16, .box [vi x2.Id, vi x2.Ver, .o 66]), (66, .own 3 1 (mI v1.2)), (58, .own 34 3 (mB v1.1))]⟩ ?_ ?_
 ·refine rg ?_
  obtain ⟨x5, hx5, hv2⟩ := bindS hv2
  refine ⟨_, rfl, ?_⟩
  refine CallOk.ownLend (D := 70) (wo_scrub_Look hx5) (.cons (Fz.o rfl) (.cons (Fz.a (.cons Fz.v (.cons Fz.v (.cons (Fz.o rfl) .nil)))) (.nil))) (rowsPlain (f := c_api_Find) (fun _ => rfl) _) rfl ?_
  refine ⟨_, List.length_map _, fun _ => ?_⟩
  obtain ⟨c1, hg1, hv2⟩ := bindS hv2
  refine Br.itf hg1 (fun hb hg1 => ?_) fun hb hg1 => ?_
  ·cases hg1
   cases hv2
   exact wt Q8 J4 rfl
  obtain ⟨x6, hx6, hg1⟩ := bindS hg1
  refine ⟨_, rfl, ?_⟩
  refine CallOk.ownLend (D := 76) (wo_scrub_Intact hx6) (.cons (Fz.o rfl) (.cons (Fz.a (.cons Fz.v (.cons Fz.v (.cons (Fz.o rfl) .nil)))) (.nil))) (rowsPlain (f := Go.Cat.encI) (fun _ => rfl) _) rfl ?_
  refine ⟨_, List.length_map _, fun _ => ?_⟩
  cases hg1
  cases hv2
  exact wt Q8 J4 rfl
 refine cn 80 (v2) rfl h (fun hb h => ?_) fun hb h => ?_
 ·refine sg ?_
  refine wE [(12, vb false)] Q1 ?_
  refine rt ?_
  cases h
  exact Fz.v
 refine sk ?_
 refine sg ?_
 obtain ⟨hc8, h⟩ := chk_some h
 refine ⟨_, wrap_of_u8 (k := .i64) (by decide) _, hc8, _, rfl, ?_⟩
 refine wT [(5, .v (.int .u16 p_bit)), (13, vb x1), (14, vi (1 + (Int.tmod (p_many.toNat : Int) (5)))), (15, .b 15 0), (16, .b 16 0), (17, .o 58), (19, vi (Int.tmod (p_at.toNat : Int) (1 + (Int.tmod (p_many.toNat : Int) (5)))))] [(15, .box [vi x2.Id, vi x2.Ver, .s (mA x2.Data), .s (mI x2.Sums)]), (16, .box [vi x2.Id, vi x2.Ver, .o 66]), (66, .own 3 1 (mI v1.2)), (58, .own 34 3 (mB v1.1))] Q7 J4 rfl ?_
 refine sq ?_
 refine Ok.draw (m := 12) (MD := ⟨[]⟩) (CH := ⟨[]⟩) Tryz.tok Tryz.mixed (by kernel_rfl) ?_
 obtain ⟨x7, hx7, h⟩ := bindS h
 obtain ⟨x8, hx8, h⟩ := bindS h
 refine ⟨_, rfl, _, rfl, _, ⟨_, idx_nat hx7, idx_ltm hx7, rfl⟩, _, ⟨_, idx_row hx7, rfl, _, rfl, rfl⟩, _, rfl, _, ⟨_, rfl, rfl⟩, _, ⟨_, .of_pure (w_disk_Read hx8) (LeL.refl _), rfl⟩, _, rfl, _, rfl, _, rfl, _, rfl, _, rfl, Q0, ?_⟩
 refine wT [(5, .v (.int .u16 p_bit)), (13, vb x1), (14, vi (1 + (Int.tmod (p_many.toNat : Int) (5)))), (15, .b 15 0), (16, .b 16 0), (17, .o 58), (19, vi (Int.tmod (p_at.toNat : Int) (1 + (Int.tmod (p_many.toNat : Int) (5))))), (20, .s (mA x8.1)), (21, vi x8.2)] [(15, .box [vi x2.Id, vi x2.Ver, .s (mA x2.Data), .s (mI x2.Sums)]), (16, .box [vi x2.Id, vi x2.Ver, .o 66]), (66, .own 3 1 (mI v1.2)), (58, .own 34 3 (mB v1.1))] ⟨lr, Q8⟩ J4 rfl ?_
 refine sq ?_
 obtain ⟨v3, hv3, h⟩ := bindS h
 refine Ok.seqw ⟨Cat.tab [(5, .v (.int .u16 p_bit)), (13, vb x1), (14, vi (1 + (Int.tmod (p_many.toNat : Int) (5)))), (15, .b 15 0), (16, .b 16 0), (17, .o 58), (19, vi (Int.tmod (p_at.toNat : Int) (1 + (Int.tmod (p_many.toNat : Int) (5))))), (20, .s (mA x8.1)), (101, vb v3)], [(15, .box [vi x2.Id, vi x2.Ver, .s (mA x2.Data), .s (mI x2.Sums)]), (16, .box [vi x2.Id, vi x2.Ver, .o 66]), (66, .own 3 1 (mI v1.2)), (58, .own 34 3 (mB v1.1))]⟩ ?_ ?_
 ·refine rg ?_
  obtain ⟨c2, hg2, hv3⟩ := bindS hv3
  refine Br.itf hg2 (fun hb hg2 => ?_) fun hb hg2 => ?_
  ·cases hg2
   cases hv3
   exact wt ⟨lr, Q8⟩ J4 rfl
  refine ⟨_, List.length_map _, fun _ => ?_⟩
  cases hg2
  cases hv3
  exact wt ⟨lr, Q8⟩ J4 rfl
 refine cn 101 (v3) rfl h (fun hb h => ?_) fun hb h => ?_
 ·refine sg ?_
  refine wE [(12, vb false)] Q1 ?_
  refine rt ?_
  cases h
  exact Fz.v
 refine sk ?_
 refine sq ?_
 refine Ok.draw (m := 16) (MD := ⟨[]⟩) (CH := ⟨[]⟩) Tryz.tok Tryz.mixed (by kernel_rfl) ?_
 obtain ⟨x9, hx9, h⟩ := bindS h
 obtain ⟨hc9, h⟩ := chk_some h
 obtain ⟨hc10, h⟩ := chk_some h
 obtain ⟨x10, hx10, h⟩ := bindS h
 obtain ⟨x11, hx11, h⟩ := bindS h
 refine ⟨_, rfl, _, rfl, _, rfl, _, rfl, _, ⟨_, idx_nat hx9, idx_ltm hx9, rfl⟩, _, ⟨_, idx_row hx9, rfl, _, rfl, rfl⟩, _, rfl, _, ⟨_, rfl, rfl⟩, _, rfl, _, ⟨_, rfl, rfl⟩, _, rfl, _, ⟨_, List.length_map _, fun _ => rfl⟩, _, Or.inl ⟨hc9, rfl⟩, _, ⟨hc10, _, rfl, rfl⟩, _, ⟨_, .of_pure (w_disk_Rot hx10) (LeL.refl _), rfl⟩, _, ⟨_, idx_nat hx11, idx_ltm hx11, rfl⟩, Q0, _, idx_row hx11, rfl, _, rfl, _, set_row (f := c_api_Disk) (x := x10), ?_⟩
 refine wT [(13, vb x1), (14, vi (1 + (Int.tmod (p_many.toNat : Int) (5)))), (15, .b 15 0), (16, .b 16 0), (17, .o 58), (19, vi (Int.tmod (p_at.toNat : Int) (1 + (Int.tmod (p_many.toNat : Int) (5)))))] [(15, .box [vi x2.Id, vi x2.Ver, .s (mA x2.Data), .s (mI x2.Sums)]), (16, .box [vi x2.Id, vi x2.Ver, .o 66]), (66, .own 3 1 (mI v1.2)), (58, .own 34 3 (mB (v1.1.set (Int.tmod (p_at.toNat : Int) (1 + (Int.tmod (p_many.toNat : Int) (5)))).toNat x10)))] Q6 J4 rfl ?_
 refine sg ?_
 obtain ⟨x12, hx12, h⟩ := bindS h
 refine ⟨_, rfl, ?_⟩
 refine CallOk.ownLend (D := 120) (wo_scrub_Look hx12) (.cons (Fz.o rfl) (.cons (Fz.a (.cons Fz.v (.cons Fz.v (.cons (Fz.o rfl) .nil)))) (.nil))) (rowsPlain (f := c_api_Find) (fun _ => rfl) _) rfl ?_
 refine wT [(13, vb x1), (14, vi (1 + (Int.tmod (p_many.toNat : Int) (5)))), (15, .b 15 0), (16, .b 16 0), (17, .o 58), (19, vi (Int.tmod (p_at.toNat : Int) (1 + (Int.tmod (p_many.toNat : Int) (5))))), (22, .o 120)] [(15, .box [vi x2.Id, vi x2.Ver, .s (mA x2.Data), .s (mI x2.Sums)]), (16, .box [vi x2.Id, vi x2.Ver, .o 66]), (66, .own 3 1 (mI v1.2)), (58, .own 34 3 (mB (v1.1.set (Int.tmod (p_at.toNat : Int) (1 + (Int.tmod (p_many.toNat : Int) (5)))).toNat x10))), (120, .own 50 3 (mD x12))] Q7 ⟨hr, J4⟩ rfl ?_
 refine sq ?_
 refine Ok.wk (Wk.freeze (id := 66) rfl) ?_
 refine rg ?_
 obtain ⟨x13, hx13, h⟩ := bindS h
 refine ⟨_, rfl, Or.inl ?_⟩
 refine CallOk.freeze (id := 58) rfl (CallOk.call (w_scrub_Plan hx13) (LeL.refl _) ?_)
 refine wT [(13, vb x1), (14, vi (1 + (Int.tmod (p_many.toNat : Int) (5)))), (15, .b 15 0), (16, .b 16 0), (17, .s (mB (v1.1.set (Int.tmod (p_at.toNat : Int) (1 + (Int.tmod (p_many.toNat : Int) (5)))).toNat x10))), (19, vi (Int.tmod (p_at.toNat : Int) (1 + (Int.tmod (p_many.toNat : Int) (5))))), (22, .o 120), (23, .s (mE x13.1)), (24, .s (mI x13.2))] [(15, .box [vi x2.Id, vi x2.Ver, .s (mA x2.Data), .s (mI x2.Sums)]), (16, .box [vi x2.Id, vi x2.Ver, .s (mI v1.2)]), (120, .own 50 3 (mD x12))] ⟨lr, Q8⟩ J3 rfl ?_
 refine sq ?_
 refine sg ?_
 obtain ⟨x14, hx14, h⟩ := bindS h
 refine ⟨_, rfl, Or.inl ?_⟩
 refine CallOk.borrow (w_ref27_SameFinds hx14) (.cons (Fz.o rfl) (.cons Fz.s (.nil))) rfl ?_
 refine wT [(13, vb x1), (14, vi (1 + (Int.tmod (p_many.toNat : Int) (5)))), (15, .b 15 0), (16, .b 16 0), (17, .s (mB (v1.1.set (Int.tmod (p_at.toNat : Int) (1 + (Int.tmod (p_many.toNat : Int) (5)))).toNat x10))), (19, vi (Int.tmod (p_at.toNat : Int) (1 + (Int.tmod (p_many.toNat : Int) (5))))), (23, .s (mE x13.1)), (24, .s (mI x13.2)), (135, vb (!x14))] [(15, .box [vi x2.Id, vi x2.Ver, .s (mA x2.Data), .s (mI x2.Sums)]), (16, .box [vi x2.Id, vi x2.Ver, .s (mI v1.2)])] ⟨lr, Q8⟩ J2 rfl ?_
 refine cn 135 (!x14) rfl h (fun hb h => ?_) fun hb h => ?_
 ·refine sg ?_
  refine wE [(12, vb false)] Q1 ?_
  refine rt ?_
  cases h
  exact Fz.v
 refine sk ?_
 refine sq ?_
 refine sg ?_
 refine wT [(13, vb x1), (14, vi (1 + (Int.tmod (p_many.toNat : Int) (5)))), (15, .b 15 0), (16, .b 16 0), (17, .s (mB (v1.1.set (Int.tmod (p_at.toNat : Int) (1 + (Int.tmod (p_many.toNat : Int) (5)))).toNat x10))), (19, vi (Int.tmod (p_at.toNat : Int) (1 + (Int.tmod (p_many.toNat : Int) (5))))), (23, .s (mE x13.1)), (24, .s (mI x13.2)), (137, vb ((1 + (Int.tmod (p_many.toNat : Int) (5))) == 1))] [(15, .box [vi x2.Id, vi x2.Ver, .s (mA x2.Data), .s (mI x2.Sums)]), (16, .box [vi x2.Id, vi x2.Ver, .s (mI v1.2)])] ⟨lr, Q8⟩ J2 rfl ?_
 refine cn 137 ((1 + (Int.tmod (p_many.toNat : Int) (5))) == 1) rfl h (fun hb h => ?_) fun hb h => ?_
 ·obtain ⟨v4, hv4, h⟩ := bindS h
  refine Ok.seqw ⟨Cat.tab [(12, vb v4)], []⟩ ?_ ?_
  ·refine rg ?_
   obtain ⟨c3, hg3, hv4⟩ := bindS hv4
   refine Br.ite hg3 (fun hb hg3 => ?_) fun hb hg3 => ?_
   ·refine ⟨_, List.length_map _, fun _ => ?_⟩
    cases hg3
    obtain ⟨c4, hg4, hv4⟩ := bindS hv4
    refine Br.ite hg4 (fun hb hg4 => ?_) fun hb hg4 => ?_
    ·obtain ⟨x15, hx15, hg4⟩ := bindS hg4
     refine ⟨_, rfl, Or.inl ?_⟩
     refine CallOk.call (w_ref02_Ints hx15) (LeL.refl _) ?_
     cases hg4
     cases hv4
     exact wt Q1 Q0 rfl
    cases hg4
    cases hv4
    exact wt Q1 Q0 rfl
   cases hg3
   obtain ⟨c4, hg5, hv4⟩ := bindS hv4
   replace hg5 := iteF hg5
   cases hg5
   cases hv4
   exact wt Q1 Q0 rfl
  refine rt ?_
  cases h
  exact Fz.v
 refine sk ?_
 refine sq ?_
 obtain ⟨v5, hv5, h⟩ := bindS h
 refine Ok.seqw ⟨Cat.tab [(13, vb x1), (16, .b 16 0), (17, .s (mB (v1.1.set (Int.tmod (p_at.toNat : Int) (1 + (Int.tmod (p_many.toNat : Int) (5)))).toNat x10))), (23, .s (mE x13.1)), (183, vb v5)], [(16, .box [vi x2.Id, vi x2.Ver, .s (mI v1.2)])]⟩ ?_ ?_
 ·refine rg ?_
  refine ⟨_, List.length_map _, fun _ => ?_⟩
  obtain ⟨c5, hg6, hv5⟩ := bindS hv5
  refine Br.itf hg6 (fun hb hg6 => ?_) fun hb hg6 => ?_
  ·cases hg6
   obtain ⟨c6, hg7, hv5⟩ := bindS hv5
   replace hg7 := iteT hg7
   cases hg7
   obtain ⟨c7, hg8, hv5⟩ := bindS hv5
   replace hg8 := iteT hg8
   cases hg8
   obtain ⟨c8, hg9, hv5⟩ := bindS hv5
   replace hg9 := iteT hg9
   cases hg9
   cases hv5
   exact wt Q5 J1 rfl
  refine ⟨_, List.length_map _, fun _ => ?_⟩
  cases hg6
  obtain ⟨c6, hg10, hv5⟩ := bindS hv5
  refine Br.itf hg10 (fun hb hg10 => ?_) fun hb hg10 => ?_
  ·cases hg10
   obtain ⟨c7, hg11, hv5⟩ := bindS hv5
   replace hg11 := iteT hg11
   cases hg11
   obtain ⟨c8, hg12, hv5⟩ := bindS hv5
   replace hg12 := iteT hg12
   cases hg12
   cases hv5
   exact wt Q5 J1 rfl
  obtain ⟨x16, hx16, hg10⟩ := bindS hg10
  refine ⟨_, idx_nat hx16, _, idx_row hx16, _, rfl, ?_⟩
  cases hg10
  obtain ⟨c7, hg13, hv5⟩ := bindS hv5
  refine Br.itf hg13 (fun hb hg13 => ?_) fun hb hg13 => ?_
  ·cases hg13
   obtain ⟨c8, hg14, hv5⟩ := bindS hv5
   replace hg14 := iteT hg14
   cases hg14
   cases hv5
   exact wt Q5 J1 rfl
  obtain ⟨x17, hx17, hg13⟩ := bindS hg13
  refine ⟨_, idx_nat hx17, _, idx_row hx17, _, rfl, ?_⟩
  cases hg13
  obtain ⟨c8, hg15, hv5⟩ := bindS hv5
  refine Br.itf hg15 (fun hb hg15 => ?_) fun hb hg15 => ?_
  ·cases hg15
   cases hv5
   exact wt Q5 J1 rfl
  obtain ⟨x18, hx18, hg15⟩ := bindS hg15
  obtain ⟨hc11, hg15⟩ := chk_some hg15
  refine ⟨_, idx_nat hx18, _, idx_row hx18, _, rfl, (Or.inl ⟨hc11, ?_⟩)⟩
  cases hg15
  cases hv5
  exact wt Q5 J1 rfl
 refine cn 183 (v5) rfl h (fun hb h => ?_) fun hb h => ?_
 ·refine sg ?_
  refine wE [(12, vb false)] Q1 ?_
  refine rt ?_
  cases h
  exact Fz.v
 refine sk ?_
 refine sg ?_
 obtain ⟨x19, hx19, h⟩ := bindS h
 refine CallOk.call (w_law27_done hx19) (LeL.refl _) ?_
 refine wT [(13, vb x1), (16, .b 16 0), (25, .s (mB x19.1)), (26, vb x19.2)] [(16, .box [vi x2.Id, vi x2.Ver, .s (mI v1.2)])] Q4 J1 rfl ?_
 obtain ⟨v6, hv6, h⟩ := bindS h
 refine Ok.seqw ⟨Cat.tab [(12, vb v6)], []⟩ ?_ ?_
 ·refine rg ?_
  obtain ⟨c9, hg16, hv6⟩ := bindS hv6
  refine Br.ite hg16 (fun hb hg16 => ?_) fun hb hg16 => ?_
  ·cases hg16
   obtain ⟨c10, hg17, hv6⟩ := bindS hv6
   refine Br.ite hg17 (fun hb hg17 => ?_) fun hb hg17 => ?_
   ·obtain ⟨x20, hx20, hg17⟩ := bindS hg17
    refine ⟨_, rfl, ?_⟩
    refine CallOk.call (w_scrub_Look hx20) (LeL.refl _) ?_
    refine ⟨_, List.length_map _, fun _ => ?_⟩
    cases hg17
    cases hv6
    exact wt Q1 Q0 rfl
   cases hg17
   cases hv6
   exact wt Q1 Q0 rfl
  cases hg16
  obtain ⟨c10, hg18, hv6⟩ := bindS hv6
  replace hg18 := iteF hg18
  cases hg18
  cases hv6
  exact wt Q1 Q0 rfl
 refine rt ?_
 cases h
 exact Fz.v
end Go.Proofs
