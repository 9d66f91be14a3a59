/- The walks of this seat beside the plain programs, part 4. No condition. -/
import Derived.Test.YtpohijpdclienaaGreatXScrubTellsEn
import Derived.Test.YtpohijpdclienaaGreatXScrubTellsWk0
import Derived.Test.YtpohijpdclienaaGreatXScrubTellsWk1
import Derived.Test.YtpohijpdclienaaGreatXScrubTellsWk2
import Derived.Test.YtpohijpdclienaaGreatXScrubTellsWk3
namespace Go.Proofs
set_option linter.all false
open Go Go.Cat
variable [M : Mono]
set_option maxRecDepth 100000
theorem wo_ref27N2 {p_disks} {p_c} {r} (h : ref27_Look p_disks p_c = some r) : POwn Tryz.prog 18 [(.s (mB p_disks)), (.a [(vi p_c.Id), (vi p_c.Ver), (.s (mI p_c.Servers))])] 43 3 (mD r) := by
 refine pown_of_ok (n := 38) (c := Tryz.f18.body.getD .skip) Tryz.tok Tryz.func18 (by kernel_rfl) rfl rfl (Nat.le_of_ble_eq_true rfl) ?_
 unfold ref27_Look at h
 refine wT [(0, .s (mB p_disks)), (1, .a [vi p_c.Id, vi p_c.Ver, .s (mI p_c.Servers)])] [] Q2 Q0 rfl ?_
 refine sg ?_
 refine wT [(0, .s (mB p_disks)), (3, .b 3 0)] [(3, .box [vi p_c.Id, vi p_c.Ver, .s (mI p_c.Servers)])] Q2 J1 rfl ?_
 refine sg ?_
 refine wT [(0, .s (mB p_disks)), (3, .b 3 0), (5, .v (.slice none 0 0))] [(3, .box [vi p_c.Id, vi p_c.Ver, .s (mI p_c.Servers)])] Q3 J1 rfl ?_
 obtain ⟨v1, hv1, h⟩ := bindS h
 refine Ok.seqw ⟨Cat.tab [(5, .o 36)], [(36, .own 43 3 (mD v1))]⟩ ?_ ?_
 ·refine sg ?_
  refine wT [(0, .s (mB p_disks)), (3, .b 3 0), (5, .v (.slice none 0 0)), (6, vi (0))] [(3, .box [vi p_c.Id, vi p_c.Ver, .s (mI p_c.Servers)])] Q4 J1 rfl ?_
  refine Ok.block ?_
  refine Ok.loop (fun (s1 : Int × (List api_Find)) => ⟨Cat.tab [(0, .s (mB p_disks)), (3, .b 3 0), (5, .o 36), (6, vi s1.1)], [(3, .box [vi p_c.Id, vi p_c.Ver, .s (mI p_c.Servers)]), (36, .own 43 3 (mD s1.2))]⟩) (ref27N4 p_c p_disks) (s0 := (0, [])) hv1 ((Wk.own0 (t := 5) (id := 36) (E := 43) (K := 3) rfl rfl).trans (Wk.tab Q4 ⟨⟨_, rfl, .refl _⟩, ⟨_, rfl, .refl _⟩, Q0⟩ rfl)) ?_
  intro s1 y1 hB1 hy1
  unfold ref27N4 at hB1
  refine Ok.seq ?_
  refine sg ?_
  refine ⟨_, rfl, _, List.length_map _, fun _ => ?_⟩
  refine wT [(0, .s (mB p_disks)), (3, .b 3 0), (5, .o 36), (6, vi s1.1), (12, vb (decide (s1.1 < (p_c.Servers.length : Int))))] [(3, .box [vi p_c.Id, vi p_c.Ver, .s (mI p_c.Servers)]), (36, .own 43 3 (mD s1.2))] Q5 J2 rfl ?_
  refine Ok.cond (d := 12) (b := decide (s1.1 < (p_c.Servers.length : Int))) rfl hB1 (fun hb hB1 => ?_) fun hb hB1 => ?_
  ·refine Ok.skip ?_
   obtain ⟨v2, hv2, hB1⟩ := bindS hB1
   refine Ok.seqw ⟨Cat.tab [(0, .s (mB p_disks)), (3, .b 3 0), (5, .o 36), (6, vi s1.1)], [(3, .box [vi p_c.Id, vi p_c.Ver, .s (mI p_c.Servers)]), (36, .own 43 3 (mD v2))]⟩ ?_ ?_
   ·refine Ok.block ?_
    refine Ok.seq ?_
    refine Ok.draw (m := 9) (MD := ⟨[]⟩) (CH := ⟨[]⟩) Tryz.tok Tryz.mixed (by kernel_rfl) ?_
    obtain ⟨x1, hx1, hv2⟩ := bindS hv2
    obtain ⟨x2, hx2, hv2⟩ := bindS hv2
    refine ⟨_, rfl, _, ⟨_, rfl, rfl⟩, _, rfl, _, ⟨_, rfl, rfl⟩, _, rfl, _, ⟨_, idx_nat hx1, _, idx_row hx1, rfl⟩, _, ⟨_, rfl, rfl⟩, _, ⟨_, .of_pure (w_ref27N7 hx2) (LeL.refl _), rfl⟩, _, rfl, Q0, ?_⟩
    refine wT [(0, .s (mB p_disks)), (3, .b 3 0), (5, .o 36), (6, vi s1.1), (7, vi x2)] [(3, .box [vi p_c.Id, vi p_c.Ver, .s (mI p_c.Servers)]), (36, .own 43 3 (mD s1.2))] Q5 J2 rfl ?_
    refine sg ?_
    refine wT [(0, .s (mB p_disks)), (3, .b 3 0), (5, .o 36), (6, vi s1.1), (7, vi x2), (24, vb (x2 != 0))] [(3, .box [vi p_c.Id, vi p_c.Ver, .s (mI p_c.Servers)]), (36, .own 43 3 (mD s1.2))] Q6 J2 rfl ?_
    refine Ok.cond (d := 24) (b := x2 != 0) rfl hv2 (fun hb hv2 => ?_) fun hb hv2 => ?_
    ·refine Ok.draw (m := 11) (MD := ⟨[]⟩) (CH := ⟨[]⟩) Tryz.tok Tryz.mixed (by kernel_rfl) ?_
     obtain ⟨x3, hx3, hv2⟩ := bindS hv2
     obtain ⟨hc1, hv2⟩ := chk_some hv2
     refine ⟨_, rfl, _, rfl, _, ⟨_, rfl, rfl⟩, _, rfl, _, ⟨_, rfl, rfl⟩, _, rfl, _, ⟨_, idx_nat hx3, _, idx_row hx3, rfl⟩, _, ⟨_, rfl, rfl⟩, _, rfl, _, rfl, _, rfl, Q0, rowsLen_map (f := c_api_Find) (n := 3) (fun _ => rfl) ([(⟨p_c.Id, x3, x2⟩ : api_Find)]), app_b2 (f := c_api_Find) (l := s1.2) (l' := [(⟨p_c.Id, x3, x2⟩ : api_Find)]) hc1, _, (List.map_append (f := c_api_Find) (l₁ := s1.2) (l₂ := [(⟨p_c.Id, x3, x2⟩ : api_Find)])).symm, ?_⟩
     cases hv2
     exact Wk.tab Q4 J2 rfl
    refine Ok.skip ?_
    cases hv2
    exact Wk.tab Q4 J2 rfl
   refine rg ?_
   obtain ⟨hc2, hB1⟩ := chk_some hB1
   refine (Or.inl ⟨hc2, ?_⟩)
   exact ⟨_, sj hB1, Wk.tab Q4 J2 rfl⟩
  refine Ok.exit ?_
  have hB1 := out_ret hB1 hy1
  cases hB1
  exact Wk.tab Q1 J1 rfl
 refine sg ?_
 refine wT [(4, .o 36)] [(36, .own 43 3 (mD v1))] Q1 J1 rfl ?_
 refine Ok.ret ?_
 cases h
 exact (.inr ⟨_, rfl, rfl⟩)
theorem w_ref27N2 {p_disks} {p_c} {r} (h : ref27_Look p_disks p_c = some r) : Pure Tryz.prog 18 [(.s (mB p_disks)), (.a [(vi p_c.Id), (vi p_c.Ver), (.s (mI p_c.Servers))])] (.s (mD r)) := (wo_ref27N2 h).pure
theorem w_ref27N9 {p_c} {p_own} {p_s} {r} (h : ref27_from p_c p_own p_s = some r) : Pure Tryz.prog 90 [(.a [(vi p_c.Id), (vi p_c.Ver), (.s (mI p_c.Servers))]), (.s (mI p_own)), (vi p_s)] (vi r) := by
 refine pure_of_ok (n := 44) (c := Tryz.f90.body.getD .skip) Tryz.tok Tryz.func90 (by kernel_rfl) rfl rfl (Nat.le_of_ble_eq_true rfl) ?_
 unfold ref27_from at h
 refine wT [(0, .a [vi p_c.Id, vi p_c.Ver, .s (mI p_c.Servers)]), (1, .s (mI p_own)), (2, vi p_s)] [] Q3 Q0 rfl ?_
 refine sg ?_
 refine wT [(1, .s (mI p_own)), (2, vi p_s), (3, .b 3 0)] [(3, .box [vi p_c.Id, vi p_c.Ver, .s (mI p_c.Servers)])] Q3 J1 rfl ?_
 refine sg ?_
 refine wT [(1, .s (mI p_own)), (2, vi p_s), (3, .b 3 0), (7, vi (-1))] [(3, .box [vi p_c.Id, vi p_c.Ver, .s (mI p_c.Servers)])] Q4 J1 rfl ?_
 refine sg ?_
 refine wT [(1, .s (mI p_own)), (2, vi p_s), (3, .b 3 0), (7, vi (-1)), (8, vb false)] [(3, .box [vi p_c.Id, vi p_c.Ver, .s (mI p_c.Servers)])] Q5 J1 rfl ?_
 refine Ok.seqj (fun v1 => ⟨Cat.tab [(7, vi v1)], []⟩) (fun v1 => ref27N35 v1 = some r) ?_ ?_
 ·refine sg ?_
  refine wT [(1, .s (mI p_own)), (2, vi p_s), (3, .b 3 0), (7, vi (-1)), (8, vb false), (9, vi (0))] [(3, .box [vi p_c.Id, vi p_c.Ver, .s (mI p_c.Servers)])] Q6 J1 rfl ?_
  refine Ok.block ?_
  refine Ok.loop (fun (s1 : Int × Bool × Int) => ⟨Cat.tab [(1, .s (mI p_own)), (2, vi p_s), (3, .b 3 0), (7, vi s1.1), (8, vb s1.2.1), (9, vi s1.2.2)], [(3, .box [vi p_c.Id, vi p_c.Ver, .s (mI p_c.Servers)])]⟩) (ref27N34 p_c p_s p_own) (s0 := ((-1), false, 0)) h (Wk.tab Q6 ⟨⟨_, rfl, .refl _⟩, Q0⟩ rfl) ?_
  intro s1 y1 hB1 hy1
  unfold ref27N34 at hB1
  refine Ok.seq ?_
  refine sg ?_
  refine ⟨_, rfl, _, List.length_map _, fun _ => ?_⟩
  refine wT [(1, .s (mI p_own)), (2, vi p_s), (3, .b 3 0), (7, vi s1.1), (8, vb s1.2.1), (9, vi s1.2.2), (14, vb (decide (s1.2.2 < (p_c.Servers.length : Int))))] [(3, .box [vi p_c.Id, vi p_c.Ver, .s (mI p_c.Servers)])] Q7 J1 rfl ?_
  refine Ok.cond (d := 14) (b := decide (s1.2.2 < (p_c.Servers.length : Int))) rfl hB1 (fun hb hB1 => ?_) fun hb hB1 => ?_
  ·refine Ok.skip ?_
   refine Ok.seqj (fun v2 => ⟨Cat.tab [(1, .s (mI p_own)), (2, vi p_s), (3, .b 3 0), (7, vi v2.1), (8, vb v2.2), (9, vi s1.2.2)], [(3, .box [vi p_c.Id, vi p_c.Ver, .s (mI p_c.Servers)])]⟩) (fun v2 => ref27N36 s1 v2 = some y1) ?_ ?_
   ·refine Ok.block ?_
    obtain ⟨v3, hv3, hB1⟩ := bindS hB1
    refine Ok.seqw ⟨Cat.tab [(1, .s (mI p_own)), (2, vi p_s), (3, .b 3 0), (7, vi s1.1), (8, vb v3), (9, vi s1.2.2)], [(3, .box [vi p_c.Id, vi p_c.Ver, .s (mI p_c.Servers)])]⟩ ?_ ?_
    ·refine sg ?_
     obtain ⟨x1, hx1, hv3⟩ := bindS hv3
     refine ⟨_, rfl, _, idx_nat hx1, _, idx_row hx1, _, rfl, ?_⟩
     refine wT [(1, .s (mI p_own)), (2, vi p_s), (3, .b 3 0), (7, vi s1.1), (8, vb s1.2.1), (9, vi s1.2.2), (23, vb (x1 == p_s))] [(3, .box [vi p_c.Id, vi p_c.Ver, .s (mI p_c.Servers)])] Q7 J1 rfl ?_
     refine Ok.cond (d := 23) (b := x1 == p_s) rfl hv3 (fun hb hv3 => ?_) fun hb hv3 => ?_
     ·refine rg ?_
      cases hv3
      exact Wk.tab Q6 J1 rfl
     refine Ok.skip ?_
     cases hv3
     exact Wk.tab Q6 J1 rfl
    refine Ok.seq ?_
    refine sg ?_
    obtain ⟨x2, hx2, hB1⟩ := bindS hB1
    obtain ⟨x3, hx3, hB1⟩ := bindS hB1
    refine ⟨_, rfl, _, idx_nat hx2, _, idx_row hx2, _, rfl, ?_⟩
    refine CallOk.call (w_ref27_has hx3) (LeL.refl _) ?_
    refine wT [(1, .s (mI p_own)), (2, vi p_s), (3, .b 3 0), (7, vi s1.1), (8, vb v3), (9, vi s1.2.2), (31, vb (!x3))] [(3, .box [vi p_c.Id, vi p_c.Ver, .s (mI p_c.Servers)])] Q7 J1 rfl ?_
    refine Ok.cond (d := 31) (b := !x3) rfl hB1 (fun hb hB1 => ?_) fun hb hB1 => ?_
    ·refine Ok.exit ?_
     exact ⟨_, hB1, Wk.tab Q6 ⟨⟨_, rfl, .refl _⟩, Q0⟩ rfl⟩
    refine Ok.skip ?_
    refine Ok.seq ?_
    refine sg ?_
    refine wT [(1, .s (mI p_own)), (2, vi p_s), (3, .b 3 0), (8, vb v3), (9, vi s1.2.2), (32, vb v3)] [(3, .box [vi p_c.Id, vi p_c.Ver, .s (mI p_c.Servers)])] Q6 J1 rfl ?_
    refine Ok.cond (d := 32) (b := v3) rfl hB1 (fun hb hB1 => ?_) fun hb hB1 => ?_
    ·refine sg ?_
     obtain ⟨x4, hx4, hB1⟩ := bindS hB1
     refine ⟨_, rfl, _, idx_nat hx4, _, idx_row hx4, _, rfl, ?_⟩
     refine wT [(6, vi x4)] [] Q1 Q0 rfl ?_
     refine Ok.ret ?_
     have hB1 := out_ret hB1 hy1
     cases hB1
     exact Fz.v
    refine Ok.skip ?_
    refine rg ?_
    obtain ⟨x5, hx5, hB1⟩ := bindS hB1
    refine ⟨_, rfl, _, idx_nat hx5, _, idx_row hx5, _, rfl, ?_⟩
    exact ⟨_, hB1, Wk.tab Q6 ⟨⟨_, rfl, .refl _⟩, Q0⟩ rfl⟩
   intro v2 hB1
   unfold ref27N36 at hB1
   refine rg ?_
   obtain ⟨hc1, hB1⟩ := chk_some hB1
   refine (Or.inl ⟨hc1, ?_⟩)
   exact ⟨_, sj hB1, Wk.tab Q6 J1 rfl⟩
  refine Ok.exit ?_
  have hB1 := out_ret hB1 hy1
  exact ⟨_, hB1, Wk.tab Q1 Q0 rfl⟩
 intro v1 h
 unfold ref27N35 at h
 refine sg ?_
 refine wT [(6, vi v1)] [] Q1 Q0 rfl ?_
 refine Ok.ret ?_
 cases h
 exact Fz.v
theorem wo_ref27N4 {p_disks} {p_c} {p_own} {r} (h : ref27_jobs p_disks p_c p_own = some r) : POwn Tryz.prog 48 [(.s (mB p_disks)), (.a [(vi p_c.Id), (vi p_c.Ver), (.s (mI p_c.Servers))]), (.s (mI p_own))] 41 6 (mE r) := by
 refine pown_of_ok (n := 66) (c := Tryz.f48.body.getD .skip) Tryz.tok Tryz.func48 (by kernel_rfl) rfl rfl (Nat.le_of_ble_eq_true rfl) ?_
 unfold ref27_jobs at h
 refine wT [(0, .s (mB p_disks)), (1, .a [vi p_c.Id, vi p_c.Ver, .s (mI p_c.Servers)]), (2, .s (mI p_own))] [] Q3 Q0 rfl ?_
 refine sg ?_
 refine wT [(0, .s (mB p_disks)), (2, .s (mI p_own)), (4, .b 4 0)] [(4, .box [vi p_c.Id, vi p_c.Ver, .s (mI p_c.Servers)])] Q3 J1 rfl ?_
 refine sg ?_
 refine wT [(0, .s (mB p_disks)), (2, .s (mI p_own)), (4, .b 4 0), (7, .v (.slice none 0 0))] [(4, .box [vi p_c.Id, vi p_c.Ver, .s (mI p_c.Servers)])] Q4 J1 rfl ?_
 obtain ⟨v1, hv1, h⟩ := bindS h
 refine Ok.seqw ⟨Cat.tab [(7, .o 64)], [(64, .own 41 6 (mE v1))]⟩ ?_ ?_
 ·refine sg ?_
  refine wT [(0, .s (mB p_disks)), (2, .s (mI p_own)), (4, .b 4 0), (7, .v (.slice none 0 0)), (8, vi (0))] [(4, .box [vi p_c.Id, vi p_c.Ver, .s (mI p_c.Servers)])] Q5 J1 rfl ?_
  refine Ok.block ?_
  refine Ok.loop (fun (s1 : Int × (List api_Job)) => ⟨Cat.tab [(0, .s (mB p_disks)), (2, .s (mI p_own)), (4, .b 4 0), (7, .o 64), (8, vi s1.1)], [(4, .box [vi p_c.Id, vi p_c.Ver, .s (mI p_c.Servers)]), (64, .own 41 6 (mE s1.2))]⟩) (ref27N41 p_disks p_c p_own) (s0 := (0, [])) hv1 ((Wk.own0 (t := 7) (id := 64) (E := 41) (K := 6) rfl rfl).trans (Wk.tab Q5 ⟨⟨_, rfl, .refl _⟩, ⟨_, rfl, .refl _⟩, Q0⟩ rfl)) ?_
  intro s1 y1 hB1 hy1
  unfold ref27N41 at hB1
  refine Ok.seq ?_
  refine sg ?_
  refine ⟨_, List.length_map _, fun _ => ?_⟩
  refine wT [(0, .s (mB p_disks)), (2, .s (mI p_own)), (4, .b 4 0), (7, .o 64), (8, vi s1.1), (16, vb (decide (s1.1 < (p_disks.length : Int))))] [(4, .box [vi p_c.Id, vi p_c.Ver, .s (mI p_c.Servers)]), (64, .own 41 6 (mE s1.2))] Q6 J2 rfl ?_
  refine Ok.cond (d := 16) (b := decide (s1.1 < (p_disks.length : Int))) rfl hB1 (fun hb hB1 => ?_) fun hb hB1 => ?_
  ·refine Ok.skip ?_
   obtain ⟨v2, hv2, hB1⟩ := bindS hB1
   refine Ok.seqw ⟨Cat.tab [(0, .s (mB p_disks)), (2, .s (mI p_own)), (4, .b 4 0), (7, .o 64), (8, vi s1.1)], [(4, .box [vi p_c.Id, vi p_c.Ver, .s (mI p_c.Servers)]), (64, .own 41 6 (mE v2))]⟩ ?_ ?_
   ·refine Ok.block ?_
    refine sg ?_
    obtain ⟨x1, hx1, hv2⟩ := bindS hv2
    refine ⟨_, rfl, ?_⟩
    refine CallOk.call (w_ref27N7 hx1) (LeL.refl _) ?_
    refine wT [(0, .s (mB p_disks)), (2, .s (mI p_own)), (4, .b 4 0), (7, .o 64), (8, vi s1.1), (9, vi x1)] [(4, .box [vi p_c.Id, vi p_c.Ver, .s (mI p_c.Servers)]), (64, .own 41 6 (mE s1.2))] Q6 J2 rfl ?_
    obtain ⟨v3, hv3, hv2⟩ := bindS hv2
    refine Ok.seqw ⟨Cat.tab [(0, .s (mB p_disks)), (2, .s (mI p_own)), (4, .b 4 0), (7, .o 64), (8, vi s1.1), (34, vb v3)], [(4, .box [vi p_c.Id, vi p_c.Ver, .s (mI p_c.Servers)]), (64, .own 41 6 (mE s1.2))]⟩ ?_ ?_
    ·refine rg ?_
     obtain ⟨x2, hx2, hv3⟩ := bindS hv3
     refine ⟨_, rfl, ?_⟩
     refine CallOk.call (w_ref27_has hx2) (LeL.refl _) ?_
     obtain ⟨c1, hg1, hv3⟩ := bindS hv3
     refine Br.ite hg1 (fun hb hg1 => ?_) fun hb hg1 => ?_
     ·cases hg1
      obtain ⟨c2, hg2, hv3⟩ := bindS hv3
      refine Br.ite hg2 (fun hb hg2 => ?_) fun hb hg2 => ?_
      ·cases hg2
       cases hv3
       exact Wk.tab Q6 J2 rfl
      cases hg2
      cases hv3
      exact Wk.tab Q6 J2 rfl
     cases hg1
     obtain ⟨c2, hg3, hv3⟩ := bindS hv3
     replace hg3 := iteF hg3
     cases hg3
     cases hv3
     exact Wk.tab Q6 J2 rfl
    refine Ok.cond (d := 34) (b := v3) rfl hv2 (fun hb hv2 => ?_) fun hb hv2 => ?_
    ·refine sg ?_
     obtain ⟨x3, hx3, hv2⟩ := bindS hv2
     refine ⟨_, rfl, ?_⟩
     refine CallOk.call (w_ref27N9 hx3) (LeL.refl _) ?_
     refine wT [(0, .s (mB p_disks)), (2, .s (mI p_own)), (4, .b 4 0), (7, .o 64), (8, vi s1.1), (10, vi x3)] [(4, .box [vi p_c.Id, vi p_c.Ver, .s (mI p_c.Servers)]), (64, .own 41 6 (mE s1.2))] Q6 J2 rfl ?_
     refine Ok.seq ?_
     refine Ok.draw2 (m := 11) (late := [9]) (MD := ⟨[]⟩) (CH := ⟨[]⟩) Tryz.tok Tryz.mixed (by kernel_rfl) ?_
     obtain ⟨x4, hx4, hv2⟩ := bindS hv2
     obtain ⟨x5, hx5, hv2⟩ := bindS hv2
     refine ⟨_, rfl, _, rfl, _, ⟨_, idx_nat hx4, _, idx_row hx4, rfl⟩, _, ⟨_, rfl, rfl⟩, _, rfl, _, ⟨_, rfl, rfl⟩, _, ⟨_, .of_pure (w_ref25_Get hx5) (LeL.refl _), rfl⟩, _, rfl, _, rfl, _, rfl, Q0, ?_⟩
     refine ⟨_, rfl, ⟨⟨_, rfl, rfl⟩, Q0⟩, ?_⟩
     refine wT [(0, .s (mB p_disks)), (2, .s (mI p_own)), (4, .b 4 0), (7, .o 64), (8, vi s1.1), (10, vi x3), (11, .b 11 0)] [(4, .box [vi p_c.Id, vi p_c.Ver, .s (mI p_c.Servers)]), (64, .own 41 6 (mE s1.2)), (11, .box [vi x5.1.Id, vi x5.1.Ver, .s (mU x5.1.Data), .s (mI x5.1.Sums)])] Q7 J3 rfl ?_
     refine rg ?_
     obtain ⟨hc1, hv2⟩ := chk_some hv2
     obtain ⟨hc2, hv2⟩ := chk_some hv2
     refine ⟨_, rfl, _, rfl, _, List.length_map _, fun _ => ⟨_, rfl, _, List.length_map _, fun _ => (Or.inl ⟨hc1, Or.inl ⟨rowsLen_map (f := c_api_Job) (n := 6) (fun _ => rfl) ([(⟨p_c.Id, p_c.Ver, x3, s1.1, (p_own.length : Int), ((x5.1.Data.length : Int) + 1)⟩ : api_Job)]), app_b2 (f := c_api_Job) (l := s1.2) (l' := [(⟨p_c.Id, p_c.Ver, x3, s1.1, (p_own.length : Int), ((x5.1.Data.length : Int) + 1)⟩ : api_Job)]) hc2, _, (List.map_append (f := c_api_Job) (l₁ := s1.2) (l₂ := [(⟨p_c.Id, p_c.Ver, x3, s1.1, (p_own.length : Int), ((x5.1.Data.length : Int) + 1)⟩ : api_Job)])).symm, ?_⟩⟩)⟩⟩
     cases hv2
     exact Wk.tab Q5 J2 rfl
    refine Ok.skip ?_
    cases hv2
    exact Wk.tab Q5 J2 rfl
   refine rg ?_
   obtain ⟨hc3, hB1⟩ := chk_some hB1
   refine (Or.inl ⟨hc3, ?_⟩)
   exact ⟨_, sj hB1, Wk.tab Q5 J2 rfl⟩
  refine Ok.exit ?_
  have hB1 := out_ret hB1 hy1
  cases hB1
  exact Wk.tab Q1 J1 rfl
 refine sg ?_
 refine wT [(6, .o 64)] [(64, .own 41 6 (mE v1))] Q1 J1 rfl ?_
 refine Ok.ret ?_
 cases h
 exact (.inr ⟨_, rfl, rfl⟩)
theorem w_ref27N10 {p_disks} {p_c} {p_own} {r} (h : ref27_jobs p_disks p_c p_own = some r) : Pure Tryz.prog 48 [(.s (mB p_disks)), (.a [(vi p_c.Id), (vi p_c.Ver), (.s (mI p_c.Servers))]), (.s (mI p_own))] (.s (mE r)) := (wo_ref27N4 h).pure
theorem w_ref27N3 {p_disks} {p_l} {r} (h : ref27_Plan p_disks p_l = some r) : Pure Tryz.prog 20 [(.s (mB p_disks)), (.s (mC p_l))] (.t [(.s (mE r.1)), (.s (mI r.2))]) := by
 refine pure_of_ok (n := 44) (c := Tryz.f20.body.getD .skip) Tryz.tok Tryz.func20 (by kernel_rfl) rfl rfl (Nat.le_of_ble_eq_true rfl) ?_
 unfold ref27_Plan at h
 refine wT [(0, .s (mB p_disks)), (1, .s (mC p_l))] [] Q2 Q0 rfl ?_
 refine sg ?_
 refine wT [(0, .s (mB p_disks)), (1, .s (mC p_l))] [] Q2 Q0 rfl ?_
 refine sg ?_
 refine wT [(0, .s (mB p_disks)), (1, .s (mC p_l)), (6, .v (.slice none 0 0))] [] Q3 Q0 rfl ?_
 refine sg ?_
 refine wT [(0, .s (mB p_disks)), (1, .s (mC p_l)), (6, .v (.slice none 0 0)), (7, .v (.slice none 0 0))] [] Q4 Q0 rfl ?_
 obtain ⟨v1, hv1, h⟩ := bindS h
 refine Ok.seqw ⟨Cat.tab [(6, .o 41), (7, .o 32)], [(41, .own 41 6 (mE v1.1)), (32, .own 3 1 (mI v1.2))]⟩ ?_ ?_
 ·refine sg ?_
  refine wT [(0, .s (mB p_disks)), (1, .s (mC p_l)), (6, .v (.slice none 0 0)), (7, .v (.slice none 0 0)), (8, vi (0))] [] Q5 Q0 rfl ?_
  refine Ok.block ?_
  refine Ok.loop (fun (s1 : Int × (List api_Job) × (List Int)) => ⟨Cat.tab [(0, .s (mB p_disks)), (1, .s (mC p_l)), (6, .o 41), (7, .o 32), (8, vi s1.1)], [(41, .own 41 6 (mE s1.2.1)), (32, .own 3 1 (mI s1.2.2))]⟩) (ref27N6 p_l p_disks) (s0 := (0, [], [])) hv1 ((Wk.own0 (t := 6) (id := 41) (E := 41) (K := 6) rfl rfl).trans ((Wk.own0 (t := 7) (id := 32) (E := 3) (K := 1) rfl rfl).trans (Wk.tab Q5 ⟨⟨_, rfl, .refl _⟩, ⟨_, rfl, .refl _⟩, Q0⟩ rfl))) ?_
  intro s1 y1 hB1 hy1
  unfold ref27N6 at hB1
  refine Ok.seq ?_
  refine sg ?_
  refine ⟨_, List.length_map _, fun _ => ?_⟩
  refine wT [(0, .s (mB p_disks)), (1, .s (mC p_l)), (6, .o 41), (7, .o 32), (8, vi s1.1), (13, vb (decide (s1.1 < (p_l.length : Int))))] [(41, .own 41 6 (mE s1.2.1)), (32, .own 3 1 (mI s1.2.2))] Q6 J2 rfl ?_
  refine Ok.cond (d := 13) (b := decide (s1.1 < (p_l.length : Int))) rfl hB1 (fun hb hB1 => ?_) fun hb hB1 => ?_
  ·refine Ok.skip ?_
   obtain ⟨v2, hv2, hB1⟩ := bindS hB1
   refine Ok.seqw ⟨Cat.tab [(0, .s (mB p_disks)), (1, .s (mC p_l)), (6, .o 41), (7, .o 32), (8, vi s1.1)], [(41, .own 41 6 (mE v2.1)), (32, .own 3 1 (mI v2.2))]⟩ ?_ ?_
   ·refine Ok.block ?_
    refine sg ?_
    obtain ⟨x1, hx1, hv2⟩ := bindS hv2
    obtain ⟨x2, hx2, hv2⟩ := bindS hv2
    refine ⟨_, idx_nat hx1, _, idx_row hx1, _, rfl, ?_⟩
    refine CallOk.call (w_ref27N1 hx2) (LeL.refl _) ?_
    refine wT [(0, .s (mB p_disks)), (1, .s (mC p_l)), (6, .o 41), (7, .o 32), (8, vi s1.1), (9, .s (mI x2))] [(41, .own 41 6 (mE s1.2.1)), (32, .own 3 1 (mI s1.2.2))] Q6 J2 rfl ?_
    refine sg ?_
    refine ⟨_, List.length_map _, fun _ => ?_⟩
    refine wT [(0, .s (mB p_disks)), (1, .s (mC p_l)), (6, .o 41), (7, .o 32), (8, vi s1.1), (9, .s (mI x2)), (24, vb ((x2.length : Int) == 0))] [(41, .own 41 6 (mE s1.2.1)), (32, .own 3 1 (mI s1.2.2))] Q7 J2 rfl ?_
    refine Ok.cond (d := 24) (b := (x2.length : Int) == 0) rfl hv2 (fun hb hv2 => ?_) fun hb hv2 => ?_
    ·refine rg ?_
     obtain ⟨x3, hx3, hv2⟩ := bindS hv2
     obtain ⟨hc1, hv2⟩ := chk_some hv2
     refine ⟨_, idx_nat hx3, _, idx_row hx3, _, rfl, Or.inl ⟨rowsLen_map (f := Go.Cat.encI) (n := 1) (fun _ => rfl) ([x3.Id]), app_b2 (f := Go.Cat.encI) (l := s1.2.2) (l' := [x3.Id]) hc1, _, (List.map_append (f := Go.Cat.encI) (l₁ := s1.2.2) (l₂ := [x3.Id])).symm, ?_⟩⟩
     cases hv2
     exact Wk.tab Q5 J2 rfl
    refine rg ?_
    obtain ⟨x4, hx4, hv2⟩ := bindS hv2
    obtain ⟨x5, hx5, hv2⟩ := bindS hv2
    refine ⟨_, idx_nat hx4, _, idx_row hx4, _, rfl, ?_⟩
    refine CallOk.call (w_ref27N10 hx5) (LeL.refl _) ?_
    obtain ⟨hc2, hv2⟩ := chk_some hv2
    refine ⟨rowsLen_map (f := c_api_Job) (n := 6) (fun _ => rfl) x5, app_b2 (f := c_api_Job) (l := s1.2.1) (l' := x5) hc2, _, (List.map_append (f := c_api_Job) (l₁ := s1.2.1) (l₂ := x5)).symm, ?_⟩
    cases hv2
    exact Wk.tab Q5 J2 rfl
   refine rg ?_
   obtain ⟨hc3, hB1⟩ := chk_some hB1
   refine (Or.inl ⟨hc3, ?_⟩)
   exact ⟨_, sj hB1, Wk.tab Q5 J2 rfl⟩
  refine Ok.exit ?_
  have hB1 := out_ret hB1 hy1
  cases hB1
  exact Wk.tab Q2 J2 rfl
 refine sg ?_
 refine wT [(4, .o 41), (5, .o 32)] [(41, .own 41 6 (mE v1.1)), (32, .own 3 1 (mI v1.2))] Q2 J2 rfl ?_
 refine Ok.ret ?_
 cases h
 exact (Fz.t (.cons (Fz.o rfl) (.cons (Fz.o rfl) .nil)))
theorem wo_ref25N1 {p_d} {r} (h : ref25_Has p_d = some r) : POwn Tryz.prog 53 [(.a [(.s (mA p_d.Synced)), (.s (mA p_d.Loose)), (vb p_d.Down)])] 3 1 (mI r) := by
 refine pown_of_ok (n := 29) (c := Tryz.f53.body.getD .skip) Tryz.tok Tryz.func53 (by kernel_rfl) rfl rfl (Nat.le_of_ble_eq_true rfl) ?_
 unfold ref25_Has at h
 refine wT [(0, .a [.s (mA p_d.Synced), .s (mA p_d.Loose), vb p_d.Down])] [] Q1 Q0 rfl ?_
 refine sg ?_
 refine wT [(1, .b 1 0)] [(1, .box [.s (mA p_d.Synced), .s (mA p_d.Loose), vb p_d.Down])] Q1 J1 rfl ?_
 refine sg ?_
 refine wT [(1, .b 1 0), (3, .v (.slice none 0 0))] [(1, .box [.s (mA p_d.Synced), .s (mA p_d.Loose), vb p_d.Down])] Q2 J1 rfl ?_
 obtain ⟨v1, hv1, h⟩ := bindS h
 refine Ok.seqw ⟨Cat.tab [(3, .o 27)], [(27, .own 3 1 (mI v1))]⟩ ?_ ?_
 ·refine sg ?_
  refine wT [(1, .b 1 0), (3, .v (.slice none 0 0)), (4, vi (0))] [(1, .box [.s (mA p_d.Synced), .s (mA p_d.Loose), vb p_d.Down])] Q3 J1 rfl ?_
  refine Ok.block ?_
  refine Ok.loop (fun (s1 : Int × (List Int)) => ⟨Cat.tab [(1, .b 1 0), (3, .o 27), (4, vi s1.1)], [(1, .box [.s (mA p_d.Synced), .s (mA p_d.Loose), vb p_d.Down]), (27, .own 3 1 (mI s1.2))]⟩) (ref25N1 p_d) (s0 := (0, [])) hv1 ((Wk.own0 (t := 3) (id := 27) (E := 3) (K := 1) rfl rfl).trans (Wk.tab Q3 ⟨⟨_, rfl, .refl _⟩, ⟨_, rfl, .refl _⟩, Q0⟩ rfl)) ?_
  intro s1 y1 hB1 hy1
  unfold ref25N1 at hB1
  refine Ok.seq ?_
  refine sg ?_
  refine wT [(1, .b 1 0), (3, .o 27), (4, vi s1.1), (8, vb (decide (s1.1 < 200)))] [(1, .box [.s (mA p_d.Synced), .s (mA p_d.Loose), vb p_d.Down]), (27, .own 3 1 (mI s1.2))] Q4 J2 rfl ?_
  refine Ok.cond (d := 8) (b := decide (s1.1 < 200)) rfl hB1 (fun hb hB1 => ?_) fun hb hB1 => ?_
  ·refine Ok.skip ?_
   obtain ⟨v2, hv2, hB1⟩ := bindS hB1
   refine Ok.seqw ⟨Cat.tab [(1, .b 1 0), (3, .o 27), (4, vi s1.1)], [(1, .box [.s (mA p_d.Synced), .s (mA p_d.Loose), vb p_d.Down]), (27, .own 3 1 (mI v2))]⟩ ?_ ?_
   ·refine Ok.block ?_
    refine sg ?_
    obtain ⟨x1, hx1, hv2⟩ := bindS hv2
    refine ⟨_, rfl, ?_⟩
    refine CallOk.call (w_ref04N2 hx1) (LeL.refl _) ?_
    refine wT [(1, .b 1 0), (3, .o 27), (4, vi s1.1), (5, .s (mU x1.1)), (6, vi x1.2)] [(1, .box [.s (mA p_d.Synced), .s (mA p_d.Loose), vb p_d.Down]), (27, .own 3 1 (mI s1.2))] Q5 J2 rfl ?_
    obtain ⟨v3, hv3, hv2⟩ := bindS hv2
    refine Ok.seqw ⟨Cat.tab [(1, .b 1 0), (3, .o 27), (4, vi s1.1), (23, vb v3)], [(1, .box [.s (mA p_d.Synced), .s (mA p_d.Loose), vb p_d.Down]), (27, .own 3 1 (mI s1.2))]⟩ ?_ ?_
    ·refine rg ?_
     obtain ⟨c1, hg1, hv3⟩ := bindS hv3
     refine Br.ite hg1 (fun hb hg1 => ?_) fun hb hg1 => ?_
     ·refine ⟨_, List.length_map _, fun _ => ?_⟩
      cases hg1
      cases hv3
      exact Wk.tab Q4 J2 rfl
     cases hg1
     cases hv3
     exact Wk.tab Q4 J2 rfl
    refine Ok.cond (d := 23) (b := v3) rfl hv2 (fun hb hv2 => ?_) fun hb hv2 => ?_
    ·refine rg ?_
     obtain ⟨hc1, hv2⟩ := chk_some hv2
     refine Or.inl ⟨rowsLen_map (f := Go.Cat.encI) (n := 1) (fun _ => rfl) ([s1.1]), app_b2 (f := Go.Cat.encI) (l := s1.2) (l' := [s1.1]) hc1, _, (List.map_append (f := Go.Cat.encI) (l₁ := s1.2) (l₂ := [s1.1])).symm, ?_⟩
     cases hv2
     exact Wk.tab Q3 J2 rfl
    refine Ok.skip ?_
    cases hv2
    exact Wk.tab Q3 J2 rfl
   refine rg ?_
   obtain ⟨hc2, hB1⟩ := chk_some hB1
   refine (Or.inl ⟨hc2, ?_⟩)
   exact ⟨_, sj hB1, Wk.tab Q3 J2 rfl⟩
  refine Ok.exit ?_
  have hB1 := out_ret hB1 hy1
  cases hB1
  exact Wk.tab Q1 J1 rfl
 refine sg ?_
 refine wT [(2, .o 27)] [(27, .own 3 1 (mI v1))] Q1 J1 rfl ?_
 refine Ok.ret ?_
 cases h
 exact (.inr ⟨_, rfl, rfl⟩)
theorem w_ref25_Has {p_d} {r} (h : ref25_Has p_d = some r) : Pure Tryz.prog 53 [(.a [(.s (mA p_d.Synced)), (.s (mA p_d.Loose)), (vb p_d.Down)])] (.s (mI r)) := (wo_ref25N1 h).pure
theorem w_ref27N11 {p_l} {p_id} {p_s} {r} (h : ref27N43 p_l p_id p_s = some r) : Pure Tryz.prog 54 [(.s (mC p_l)), (vi p_id), (vi p_s)] (vb r) := by
 refine pure_of_ok (n := 30) (c := Tryz.f54.body.getD .skip) Tryz.tok Tryz.func54 (by kernel_rfl) rfl rfl (Nat.le_of_ble_eq_true rfl) ?_
 unfold ref27N43 at h
 refine wT [(0, .s (mC p_l)), (1, vi p_id), (2, vi p_s)] [] Q3 Q0 rfl ?_
 refine sg ?_
 refine wT [(0, .s (mC p_l)), (1, vi p_id), (2, vi p_s)] [] Q3 Q0 rfl ?_
 refine Ok.seqj (fun v1 => ⟨Cat.tab [], []⟩) (fun v1 => ref27N45 v1 = some r) ?_ ?_
 ·refine sg ?_
  refine wT [(0, .s (mC p_l)), (1, vi p_id), (2, vi p_s), (7, vi (0))] [] Q4 Q0 rfl ?_
  refine Ok.block ?_
  refine Ok.loop (fun (s1 : Int) => ⟨Cat.tab [(0, .s (mC p_l)), (1, vi p_id), (2, vi p_s), (7, vi s1)], []⟩) (ref27N44 p_l p_id p_s) (s0 := 0) h (Wk.tab Q4 Q0 rfl) ?_
  intro s1 y1 hB1 hy1
  unfold ref27N44 at hB1
  refine Ok.seq ?_
  refine sg ?_
  refine ⟨_, List.length_map _, fun _ => ?_⟩
  refine wT [(0, .s (mC p_l)), (1, vi p_id), (2, vi p_s), (7, vi s1), (11, vb (decide (s1 < (p_l.length : Int))))] [] Q5 Q0 rfl ?_
  refine Ok.cond (d := 11) (b := decide (s1 < (p_l.length : Int))) rfl hB1 (fun hb hB1 => ?_) fun hb hB1 => ?_
  ·refine Ok.skip ?_
   refine Ok.seq ?_
   refine Ok.block ?_
   obtain ⟨v2, hv2, hB1⟩ := bindS hB1
   refine Ok.seqw ⟨Cat.tab [(0, .s (mC p_l)), (1, vi p_id), (2, vi p_s), (7, vi s1), (29, vb v2)], []⟩ ?_ ?_
   ·refine rg ?_
    obtain ⟨x1, hx1, hv2⟩ := bindS hv2
    refine ⟨_, idx_nat hx1, _, idx_row hx1, _, rfl, ?_⟩
    obtain ⟨c1, hg1, hv2⟩ := bindS hv2
    refine Br.ite hg1 (fun hb hg1 => ?_) fun hb hg1 => ?_
    ·obtain ⟨x2, hx2, hg1⟩ := bindS hg1
     obtain ⟨x3, hx3, hg1⟩ := bindS hg1
     refine ⟨_, idx_nat hx2, _, idx_row hx2, _, rfl, ?_⟩
     refine CallOk.call (w_ref27_has hx3) (LeL.refl _) ?_
     cases hg1
     cases hv2
     exact Wk.tab Q5 Q0 rfl
    cases hg1
    cases hv2
    exact Wk.tab Q5 Q0 rfl
   refine Ok.cond (d := 29) (b := v2) rfl hB1 (fun hb hB1 => ?_) fun hb hB1 => ?_
   ·refine sg ?_
    refine wT [(6, vb true)] [] Q1 Q0 rfl ?_
    refine Ok.ret ?_
    have hB1 := out_ret hB1 hy1
    cases hB1
    exact Fz.v
   refine Ok.skip ?_
   refine rg ?_
   obtain ⟨hc1, hB1⟩ := chk_some hB1
   refine (Or.inl ⟨hc1, ?_⟩)
   exact ⟨_, sj hB1, Wk.tab Q4 Q0 rfl⟩
  refine Ok.exit ?_
  have hB1 := out_ret hB1 hy1
  exact ⟨_, hB1, Wk.tab Q0 Q0 rfl⟩
 intro v1 h
 unfold ref27N45 at h
 refine sg ?_
 refine wT [(6, vb false)] [] Q1 Q0 rfl ?_
 refine Ok.ret ?_
 cases h
 exact Fz.v
theorem wo_ref27N3 {p_disks} {p_l} {r} (h : ref27N29 p_disks p_l = some r) : POwn Tryz.prog 23 [(.s (mB p_disks)), (.s (mC p_l))] 43 3 (mD r) := by
 refine pown_of_ok (n := 44) (c := Tryz.f23.body.getD .skip) Tryz.tok Tryz.func23 (by kernel_rfl) rfl rfl (Nat.le_of_ble_eq_true rfl) ?_
 unfold ref27N29 at h
 refine wT [(0, .s (mB p_disks)), (1, .s (mC p_l))] [] Q2 Q0 rfl ?_
 refine sg ?_
 refine wT [(0, .s (mB p_disks)), (1, .s (mC p_l))] [] Q2 Q0 rfl ?_
 refine sg ?_
 refine wT [(0, .s (mB p_disks)), (1, .s (mC p_l)), (5, .v (.slice none 0 0))] [] Q3 Q0 rfl ?_
 obtain ⟨v1, hv1, h⟩ := bindS h
 refine Ok.seqw ⟨Cat.tab [(5, .o 42)], [(42, .own 43 3 (mD v1))]⟩ ?_ ?_
 ·refine sg ?_
  refine wT [(0, .s (mB p_disks)), (1, .s (mC p_l)), (5, .v (.slice none 0 0)), (6, vi (0))] [] Q4 Q0 rfl ?_
  refine Ok.block ?_
  refine Ok.loop (fun (s1 : Int × (List api_Find)) => ⟨Cat.tab [(0, .s (mB p_disks)), (1, .s (mC p_l)), (5, .o 42), (6, vi s1.1)], [(42, .own 43 3 (mD s1.2))]⟩) (ref27N30 p_disks p_l) (s0 := (0, [])) hv1 ((Wk.own0 (t := 5) (id := 42) (E := 43) (K := 3) rfl rfl).trans (Wk.tab Q4 ⟨⟨_, rfl, .refl _⟩, Q0⟩ rfl)) ?_
  intro s1 y1 hB1 hy1
  unfold ref27N30 at hB1
  refine Ok.seq ?_
  refine sg ?_
  refine ⟨_, List.length_map _, fun _ => ?_⟩
  refine wT [(0, .s (mB p_disks)), (1, .s (mC p_l)), (5, .o 42), (6, vi s1.1), (12, vb (decide (s1.1 < (p_disks.length : Int))))] [(42, .own 43 3 (mD s1.2))] Q5 J1 rfl ?_
  refine Ok.cond (d := 12) (b := decide (s1.1 < (p_disks.length : Int))) rfl hB1 (fun hb hB1 => ?_) fun hb hB1 => ?_
  ·refine Ok.skip ?_
   obtain ⟨v2, hv2, hB1⟩ := bindS hB1
   refine Ok.seqw ⟨Cat.tab [(0, .s (mB p_disks)), (1, .s (mC p_l)), (5, .o 42), (6, vi s1.1)], [(42, .own 43 3 (mD v2))]⟩ ?_ ?_
   ·refine Ok.block ?_
    refine sg ?_
    obtain ⟨x1, hx1, hv2⟩ := bindS hv2
    obtain ⟨x2, hx2, hv2⟩ := bindS hv2
    refine ⟨_, idx_nat hx1, _, idx_row hx1, _, rfl, ?_⟩
    refine CallOk.call (w_ref25_Has hx2) (LeL.refl _) ?_
    refine wT [(0, .s (mB p_disks)), (1, .s (mC p_l)), (5, .o 42), (6, vi s1.1), (7, .s (mI x2))] [(42, .own 43 3 (mD s1.2))] Q5 J1 rfl ?_
    refine sg ?_
    refine wT [(0, .s (mB p_disks)), (1, .s (mC p_l)), (5, .o 42), (6, vi s1.1), (7, .s (mI x2)), (8, vi (0))] [(42, .own 43 3 (mD s1.2))] Q6 J1 rfl ?_
    refine Ok.block ?_
    refine Ok.loop (fun (s2 : Int × (List api_Find)) => ⟨Cat.tab [(0, .s (mB p_disks)), (1, .s (mC p_l)), (5, .o 42), (6, vi s1.1), (7, .s (mI x2)), (8, vi s2.1)], [(42, .own 43 3 (mD s2.2))]⟩) (ref27N31 x2 p_l s1) (s0 := (0, s1.2)) hv2 (Wk.tab Q6 ⟨⟨_, rfl, .refl _⟩, Q0⟩ rfl) ?_
    intro s2 y2 hB2 hy2
    unfold ref27N31 at hB2
    refine Ok.seq ?_
    refine sg ?_
    refine ⟨_, List.length_map _, fun _ => ?_⟩
    refine wT [(0, .s (mB p_disks)), (1, .s (mC p_l)), (5, .o 42), (6, vi s1.1), (7, .s (mI x2)), (8, vi s2.1), (23, vb (decide (s2.1 < (x2.length : Int))))] [(42, .own 43 3 (mD s2.2))] Q7 J1 rfl ?_
    refine Ok.cond (d := 23) (b := decide (s2.1 < (x2.length : Int))) rfl hB2 (fun hb hB2 => ?_) fun hb hB2 => ?_
    ·refine Ok.skip ?_
     obtain ⟨v3, hv3, hB2⟩ := bindS hB2
     refine Ok.seqw ⟨Cat.tab [(0, .s (mB p_disks)), (1, .s (mC p_l)), (5, .o 42), (6, vi s1.1), (7, .s (mI x2)), (8, vi s2.1)], [(42, .own 43 3 (mD v3))]⟩ ?_ ?_
     ·refine Ok.block ?_
      refine sg ?_
      obtain ⟨x3, hx3, hv3⟩ := bindS hv3
      obtain ⟨x4, hx4, hv3⟩ := bindS hv3
      refine ⟨_, idx_nat hx3, _, idx_row hx3, _, rfl, ?_⟩
      refine CallOk.call (w_ref27N11 hx4) (LeL.refl _) ?_
      refine wT [(0, .s (mB p_disks)), (1, .s (mC p_l)), (5, .o 42), (6, vi s1.1), (7, .s (mI x2)), (8, vi s2.1), (33, vb (!x4))] [(42, .own 43 3 (mD s2.2))] Q7 J1 rfl ?_
      refine Ok.cond (d := 33) (b := !x4) rfl hv3 (fun hb hv3 => ?_) fun hb hv3 => ?_
      ·refine rg ?_
       obtain ⟨x5, hx5, hv3⟩ := bindS hv3
       obtain ⟨hc1, hv3⟩ := chk_some hv3
       refine ⟨_, idx_nat hx5, _, idx_row hx5, _, rfl, Or.inl ⟨rowsLen_map (f := c_api_Find) (n := 3) (fun _ => rfl) ([(⟨x5, s1.1, 6⟩ : api_Find)]), app_b2 (f := c_api_Find) (l := s2.2) (l' := [(⟨x5, s1.1, 6⟩ : api_Find)]) hc1, _, (List.map_append (f := c_api_Find) (l₁ := s2.2) (l₂ := [(⟨x5, s1.1, 6⟩ : api_Find)])).symm, ?_⟩⟩
       cases hv3
       exact Wk.tab Q6 J1 rfl
      refine Ok.skip ?_
      cases hv3
      exact Wk.tab Q6 J1 rfl
     refine rg ?_
     obtain ⟨hc2, hB2⟩ := chk_some hB2
     refine (Or.inl ⟨hc2, ?_⟩)
     exact ⟨_, sj hB2, Wk.tab Q6 J1 rfl⟩
    refine Ok.exit ?_
    have hB2 := out_ret hB2 hy2
    cases hB2
    exact Wk.tab Q4 J1 rfl
   refine rg ?_
   obtain ⟨hc3, hB1⟩ := chk_some hB1
   refine (Or.inl ⟨hc3, ?_⟩)
   exact ⟨_, sj hB1, Wk.tab Q4 J1 rfl⟩
  refine Ok.exit ?_
  have hB1 := out_ret hB1 hy1
  cases hB1
  exact Wk.tab Q1 J1 rfl
 refine sg ?_
 refine wT [(4, .o 42)] [(42, .own 43 3 (mD v1))] Q1 J1 rfl ?_
 refine Ok.ret ?_
 cases h
 exact (.inr ⟨_, rfl, rfl⟩)
theorem w_ref27N8 {p_disks} {p_l} {r} (h : ref27N29 p_disks p_l = some r) : Pure Tryz.prog 23 [(.s (mB p_disks)), (.s (mC p_l))] (.s (mD r)) := (wo_ref27N3 h).pure
theorem w_law27N2 [Off] {p_disks} {p_l} {r} (h : law27N7 p_disks p_l = some r) : Pure Tryz.prog 3 [(.s (mB p_disks)), (.s (mC p_l))] (vb r) := by
 refine pure_of_ok (n := 93) (c := Tryz.f3.body.getD .skip) Tryz.tok Tryz.func3 (by kernel_rfl) rfl rfl (Nat.le_of_ble_eq_true rfl) ?_
 unfold law27N7 at h
 refine wT [(0, .s (mB p_disks)), (1, .s (mC p_l))] [] Q2 Q0 rfl ?_
 refine sg ?_
 refine wT [(0, .s (mB p_disks)), (1, .s (mC p_l))] [] Q2 Q0 rfl ?_
 refine sg ?_
 obtain ⟨x1, hx1, h⟩ := bindS h
 refine CallOk.call (w_law27N3 hx1) (LeL.refl _) ?_
 refine wT [(0, .s (mB p_disks)), (1, .s (mC p_l)), (5, vb x1)] [] Q3 Q0 rfl ?_
 refine Ok.seq ?_
 refine sg ?_
 obtain ⟨x2, hx2, h⟩ := bindS h
 refine CallOk.call (w_law27N1 hx2) (LeL.refl _) ?_
 refine wT [(0, .s (mB p_disks)), (1, .s (mC p_l)), (5, vb x1), (14, vb x2)] [] Q4 Q0 rfl ?_
 refine Ok.cond (d := 14) (b := x2) rfl h (fun hb h => ?_) fun hb h => ?_
 ·refine sg ?_
  refine wT [(4, vb x1)] [] Q1 Q0 rfl ?_
  refine Ok.ret ?_
  cases h
  exact Fz.v
 refine Ok.skip ?_
 refine Ok.seq ?_
 refine sg ?_
 obtain ⟨x3, hx3, h⟩ := bindS h
 refine CallOk.call (w_scrubN7 hx3) (LeL.refl _) ?_
 obtain ⟨x4, hx4, h⟩ := bindS h
 refine CallOk.call (w_ref27N4 hx4) (LeL.refl _) ?_
 refine wT [(0, .s (mB p_disks)), (1, .s (mC p_l)), (5, vb x1), (20, vb (!(x3 == x4)))] [] Q4 Q0 rfl ?_
 refine Ok.cond (d := 20) (b := !(x3 == x4)) rfl h (fun hb h => ?_) fun hb h => ?_
 ·refine sg ?_
  refine wT [(4, vb false)] [] Q1 Q0 rfl ?_
  refine Ok.ret ?_
  cases h
  exact Fz.v
 refine Ok.skip ?_
 refine Ok.seq ?_
 refine sg ?_
 obtain ⟨x5, hx5, h⟩ := bindS h
 refine CallOk.call (w_ref27N4 hx5) (LeL.refl _) ?_
 refine wT [(0, .s (mB p_disks)), (1, .s (mC p_l)), (5, vb x1), (23, vb (!x5))] [] Q4 Q0 rfl ?_
 refine Ok.cond (d := 23) (b := !x5) rfl h (fun hb h => ?_) fun hb h => ?_
 ·refine sg ?_
  refine wT [(4, vb x1)] [] Q1 Q0 rfl ?_
  refine Ok.ret ?_
  cases h
  exact Fz.v
 refine Ok.skip ?_
 refine Ok.seqj (fun v1 => ⟨Cat.tab [(0, .s (mB p_disks)), (1, .s (mC p_l)), (5, vb x1)], []⟩) (fun v1 => law27N9 p_disks p_l x1 v1 = some r) ?_ ?_
 ·refine sg ?_
  refine wT [(0, .s (mB p_disks)), (1, .s (mC p_l)), (5, vb x1), (6, vi (0))] [] Q4 Q0 rfl ?_
  refine Ok.block ?_
  refine Ok.loop (fun (s1 : Int) => ⟨Cat.tab [(0, .s (mB p_disks)), (1, .s (mC p_l)), (5, vb x1), (6, vi s1)], []⟩) (law27N8 p_l p_disks x1) (s0 := 0) h (Wk.tab Q4 Q0 rfl) ?_
  intro s1 y1 hB1 hy1
  unfold law27N8 at hB1
  refine Ok.seq ?_
  refine sg ?_
  refine ⟨_, List.length_map _, fun _ => ?_⟩
  refine wT [(0, .s (mB p_disks)), (1, .s (mC p_l)), (5, vb x1), (6, vi s1), (28, vb (decide (s1 < (p_l.length : Int))))] [] Q5 Q0 rfl ?_
  refine Ok.cond (d := 28) (b := decide (s1 < (p_l.length : Int))) rfl hB1 (fun hb hB1 => ?_) fun hb hB1 => ?_
  ·refine Ok.skip ?_
   refine Ok.seq ?_
   refine Ok.block ?_
   obtain ⟨v2, hv2, hB1⟩ := bindS hB1
   refine Ok.seqw ⟨Cat.tab [(0, .s (mB p_disks)), (1, .s (mC p_l)), (5, vb x1), (6, vi s1), (60, vb v2)], []⟩ ?_ ?_
   ·refine Ok.draw (m := 30) (MD := ⟨[]⟩) (CH := ⟨[]⟩) Tryz.tok Tryz.mixed (by kernel_rfl) ?_
    obtain ⟨x6, hx6, hv2⟩ := bindS hv2
    obtain ⟨x7, hx7, hv2⟩ := bindS hv2
    obtain ⟨x8, hx8, hv2⟩ := bindS hv2
    obtain ⟨x9, hx9, hv2⟩ := bindS hv2
    obtain ⟨x10, hx10, hv2⟩ := bindS hv2
    refine ⟨_, rfl, _, rfl, _, rfl, _, ⟨_, idx_nat hx6, _, idx_row hx6, rfl⟩, _, ⟨_, rfl, rfl⟩, _, ⟨_, .of_pure (w_scrubN3 hx7) (LeL.refl _), rfl⟩, _, rfl, _, rfl, _, rfl, _, ⟨_, idx_nat hx8, _, idx_row hx8, rfl⟩, _, ⟨_, rfl, rfl⟩, _, ⟨_, .of_pure (w_ref27N1 hx9) (LeL.refl _), rfl⟩, _, ⟨_, .of_pure (w_ref02N4 hx10) (LeL.refl _), rfl⟩, _, rfl, _, rfl, ?_⟩
    obtain ⟨c1, hg1, hv2⟩ := bindS hv2
    refine Br.itf hg1 (fun hb hg1 => ?_) fun hb hg1 => ?_
    ·cases hg1
     refine ⟨_, rfl, ?_⟩
     refine ⟨Q0, ?_⟩
     cases hv2
     exact Wk.tab Q5 Q0 rfl
    obtain ⟨x11, hx11, hg1⟩ := bindS hg1
    obtain ⟨x12, hx12, hg1⟩ := bindS hg1
    obtain ⟨x13, hx13, hg1⟩ := bindS hg1
    obtain ⟨x14, hx14, hg1⟩ := bindS hg1
    obtain ⟨x15, hx15, hg1⟩ := bindS hg1
    refine ⟨_, rfl, _, rfl, _, rfl, _, ⟨_, idx_nat hx11, _, idx_row hx11, rfl⟩, _, ⟨_, rfl, rfl⟩, _, ⟨_, .of_pure (w_scrubN4 hx12) (LeL.refl _), rfl⟩, _, rfl, _, rfl, _, rfl, _, ⟨_, idx_nat hx13, _, idx_row hx13, rfl⟩, _, ⟨_, rfl, rfl⟩, _, ⟨_, .of_pure (w_ref27N2 hx14) (LeL.refl _), rfl⟩, _, ⟨_, .of_pure (w_ref27N5 hx15) (LeL.refl _), rfl⟩, _, rfl, ?_⟩
    cases hg1
    refine ⟨_, rfl, ?_⟩
    refine ⟨Q0, ?_⟩
    cases hv2
    exact Wk.tab Q5 Q0 rfl
   refine Ok.cond (d := 60) (b := v2) rfl hB1 (fun hb hB1 => ?_) fun hb hB1 => ?_
   ·refine sg ?_
    refine wT [(4, vb false)] [] Q1 Q0 rfl ?_
    refine Ok.ret ?_
    have hB1 := out_ret hB1 hy1
    cases hB1
    exact Fz.v
   refine Ok.skip ?_
   refine rg ?_
   obtain ⟨hc1, hB1⟩ := chk_some hB1
   refine (Or.inl ⟨hc1, ?_⟩)
   exact ⟨_, sj hB1, Wk.tab Q4 Q0 rfl⟩
  refine Ok.exit ?_
  have hB1 := out_ret hB1 hy1
  exact ⟨_, hB1, Wk.tab Q3 Q0 rfl⟩
 intro v1 h
 unfold law27N9 at h
 refine sg ?_
 obtain ⟨x16, hx16, h⟩ := bindS h
 refine CallOk.call (w_scrubN5 hx16) (LeL.refl _) ?_
 refine wT [(0, .s (mB p_disks)), (1, .s (mC p_l)), (5, vb x1), (7, .s (mE x16.1)), (8, .s (mI x16.2))] [] Q5 Q0 rfl ?_
 refine sg ?_
 obtain ⟨x17, hx17, h⟩ := bindS h
 refine CallOk.call (w_ref27N3 hx17) (LeL.refl _) ?_
 refine wT [(0, .s (mB p_disks)), (1, .s (mC p_l)), (5, vb x1), (7, .s (mE x16.1)), (8, .s (mI x16.2)), (9, .s (mE x17.1)), (10, .s (mI x17.2))] [] Q7 Q0 rfl ?_
 obtain ⟨v3, hv3, h⟩ := bindS h
 refine Ok.seqw ⟨Cat.tab [(4, vb v3)], []⟩ ?_ ?_
 ·refine rg ?_
  obtain ⟨c2, hg2, hv3⟩ := bindS hv3
  refine Br.ite hg2 (fun hb hg2 => ?_) fun hb hg2 => ?_
  ·obtain ⟨x18, hx18, hg2⟩ := bindS hg2
   refine CallOk.norm (L := [(0, .s (mB p_disks)), (1, .s (mC p_l)), (8, .s (mI x16.2)), (10, .s (mI x17.2)), (74, .v (.bool true)), (75, .s (mE x16.1)), (76, .s (mE x17.1))]) (H' := []) (LeL.refl _) Q7 Q0 rfl (CallOk.call (w_ref27N6 hx18) (LeL.refl _) ?_)
   cases hg2
   obtain ⟨c3, hg3, hv3⟩ := bindS hv3
   refine Br.ite hg3 (fun hb hg3 => ?_) fun hb hg3 => ?_
   ·obtain ⟨x19, hx19, hg3⟩ := bindS hg3
    refine CallOk.norm (L := [(0, .s (mB p_disks)), (1, .s (mC p_l)), (79, .v (.bool true)), (80, .s (mI x16.2)), (81, .s (mI x17.2))]) (H' := []) (LeL.refl _) Q5 Q0 rfl (CallOk.call (w_ref02N4 hx19) (LeL.refl _) ?_)
    cases hg3
    obtain ⟨c4, hg4, hv3⟩ := bindS hv3
    refine Br.ite hg4 (fun hb hg4 => ?_) fun hb hg4 => ?_
    ·obtain ⟨x20, hx20, hg4⟩ := bindS hg4
     refine CallOk.norm (L := [(0, .s (mB p_disks)), (1, .s (mC p_l)), (84, .v (.bool true)), (85, .s (mB p_disks)), (86, .s (mC p_l))]) (H' := []) (LeL.refl _) Q5 Q0 rfl (CallOk.call (w_scrubN8 hx20) (LeL.refl _) ?_)
     obtain ⟨x21, hx21, hg4⟩ := bindS hg4
     refine CallOk.norm (L := [(84, .v (.bool true)), (87, .s (mD x20)), (88, .s (mB p_disks)), (89, .s (mC p_l))]) (H' := []) (LeL.refl _) Q4 Q0 rfl (CallOk.call (w_ref27N8 hx21) (LeL.refl _) ?_)
     obtain ⟨x22, hx22, hg4⟩ := bindS hg4
     refine CallOk.norm (L := [(84, .v (.bool true)), (87, .s (mD x20)), (90, .s (mD x21))]) (H' := []) (LeL.refl _) Q3 Q0 rfl (CallOk.call (w_ref27N5 hx22) (LeL.refl _) ?_)
     cases hg4
     cases hv3
     exact Wk.tab Q1 Q0 rfl
    cases hg4
    cases hv3
    exact Wk.tab Q1 Q0 rfl
   cases hg3
   obtain ⟨c4, hg5, hv3⟩ := bindS hv3
   replace hg5 := iteF hg5
   cases hg5
   cases hv3
   exact Wk.tab Q1 Q0 rfl
  cases hg2
  obtain ⟨c3, hg6, hv3⟩ := bindS hv3
  replace hg6 := iteF hg6
  cases hg6
  obtain ⟨c4, hg7, hv3⟩ := bindS hv3
  replace hg7 := iteF hg7
  cases hg7
  cases hv3
  exact Wk.tab Q1 Q0 rfl
 refine Ok.ret ?_
 cases h
 exact Fz.v
end Go.Proofs
