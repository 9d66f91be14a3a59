/- The walks of this seat beside the plain programs, part 3. No condition. -/
import Derived.Test.YtpohijpdclienaaGreatXScrubMendsEn
import Derived.Test.YtpohijpdclienaaGreatXScrubMendsWk0
import Derived.Test.YtpohijpdclienaaGreatXScrubMendsWk1
import Derived.Test.YtpohijpdclienaaGreatXScrubMendsWk2
namespace Go.Proofs
set_option linter.all false
open Go Go.Cat
variable [M : Mono]
set_option maxRecDepth 100000
theorem w_law25_Great {p_d} {r} (h : law25_Great p_d = some r) : Pure Tryz.prog 37 [(.a [(.s (mU p_d.Synced)), (.s (mU p_d.Loose)), (vb p_d.Down)])] (vb r) := by
 refine pure_of_ok (n := 48) (c := Tryz.f37.body.getD .skip) Tryz.tok Tryz.func37 (by kernel_rfl) rfl rfl (Nat.le_of_ble_eq_true rfl) ?_
 unfold law25_Great at h
 refine wT [(0, .a [.s (mU p_d.Synced), .s (mU p_d.Loose), vb p_d.Down])] [] Q1 Q0 rfl ?_
 refine sg ?_
 refine wT [(1, .b 1 0)] [(1, .box [.s (mU p_d.Synced), .s (mU p_d.Loose), vb p_d.Down])] Q1 J1 rfl ?_
 refine Ok.seq ?_
 obtain ⟨v1, hv1, h⟩ := bindS h
 refine Ok.seqw ⟨Cat.tab [(1, .b 1 0), (14, vb v1)], [(1, .box [.s (mU p_d.Synced), .s (mU p_d.Loose), vb p_d.Down])]⟩ ?_ ?_
 ·refine rg ?_
  refine ⟨_, rfl, _, List.length_map _, fun _ => ?_⟩
  obtain ⟨c1, hg1, hv1⟩ := bindS hv1
  refine Br.itf hg1 (fun hb hg1 => ?_) fun hb hg1 => ?_
  ·cases hg1
   cases hv1
   exact Wk.tab Q2 J1 rfl
  refine ⟨_, rfl, _, List.length_map _, fun _ => ?_⟩
  cases hg1
  cases hv1
  exact Wk.tab Q2 J1 rfl
 refine Ok.cond (d := 14) (b := v1) rfl h (fun hb h => ?_) fun hb h => ?_
 ·refine sg ?_
  refine wT [(2, vb true)] [] Q1 Q0 rfl ?_
  refine Ok.ret ?_
  cases h
  exact Fz.v
 refine Ok.skip ?_
 refine Ok.seqj (fun v2 => ⟨Cat.tab [(1, .b 1 0)], [(1, .box [.s (mU p_d.Synced), .s (mU p_d.Loose), vb p_d.Down])]⟩) (fun v2 => law25_Great_J1 p_d v2 = some r) ?_ ?_
 ·refine sg ?_
  refine wT [(1, .b 1 0), (3, vi (0))] [(1, .box [.s (mU p_d.Synced), .s (mU p_d.Loose), vb p_d.Down])] Q2 J1 rfl ?_
  refine Ok.block ?_
  refine Ok.loop (fun (s1 : Int) => ⟨Cat.tab [(1, .b 1 0), (3, vi s1)], [(1, .box [.s (mU p_d.Synced), .s (mU p_d.Loose), vb p_d.Down])]⟩) (law25_Great_B1 p_d) (s0 := 0) h (Wk.tab Q2 ⟨⟨_, rfl, .refl _⟩, Q0⟩ rfl) ?_
  intro s1 y1 hB1 hy1
  unfold law25_Great_B1 at hB1
  refine Ok.seq ?_
  refine sg ?_
  refine ⟨_, rfl, _, List.length_map _, fun _ => ?_⟩
  refine wT [(1, .b 1 0), (3, vi s1), (19, vb (decide (s1 < (p_d.Synced.length : Int))))] [(1, .box [.s (mU p_d.Synced), .s (mU p_d.Loose), vb p_d.Down])] Q3 J1 rfl ?_
  refine Ok.cond (d := 19) (b := decide (s1 < (p_d.Synced.length : Int))) rfl hB1 (fun hb hB1 => ?_) fun hb hB1 => ?_
  ·refine Ok.skip ?_
   refine Ok.seq ?_
   refine Ok.block ?_
   refine sg ?_
   obtain ⟨x1, hx1, hB1⟩ := bindS hB1
   refine ⟨_, rfl, _, idx_nat hx1, _, idx_row hx1, _, rfl, _, List.length_map _, fun _ => ?_⟩
   refine wT [(1, .b 1 0), (3, vi s1), (29, vb (decide ((x1.Data.length : Int) > 200)))] [(1, .box [.s (mU p_d.Synced), .s (mU p_d.Loose), vb p_d.Down])] Q3 J1 rfl ?_
   refine Ok.cond (d := 29) (b := decide ((x1.Data.length : Int) > 200)) rfl hB1 (fun hb hB1 => ?_) fun hb hB1 => ?_
   ·refine sg ?_
    refine wT [(2, vb true)] [] Q1 Q0 rfl ?_
    refine Ok.ret ?_
    have hB1 := out_ret hB1 hy1
    cases hB1
    exact Fz.v
   refine Ok.skip ?_
   refine rg ?_
   obtain ⟨hc1, hB1⟩ := chk_some hB1
   refine (Or.inl ⟨hc1, ?_⟩)
   exact ⟨_, sj hB1, Wk.tab Q2 J1 rfl⟩
  refine Ok.exit ?_
  have hB1 := out_ret hB1 hy1
  exact ⟨_, hB1, Wk.tab Q1 ⟨⟨_, rfl, .refl _⟩, Q0⟩ rfl⟩
 intro v2 h
 unfold law25_Great_J1 at h
 refine Ok.seqj (fun v3 => ⟨Cat.tab [(1, .b 1 0)], [(1, .box [.s (mU p_d.Synced), .s (mU p_d.Loose), vb p_d.Down])]⟩) (fun v3 => law25_Great_J2 p_d v3 = some r) ?_ ?_
 ·refine sg ?_
  refine wT [(1, .b 1 0), (4, vi (0))] [(1, .box [.s (mU p_d.Synced), .s (mU p_d.Loose), vb p_d.Down])] Q2 J1 rfl ?_
  refine Ok.block ?_
  refine Ok.loop (fun (s2 : Int) => ⟨Cat.tab [(1, .b 1 0), (4, vi s2)], [(1, .box [.s (mU p_d.Synced), .s (mU p_d.Loose), vb p_d.Down])]⟩) (law25_Great_B2 p_d) (s0 := 0) h (Wk.tab Q2 ⟨⟨_, rfl, .refl _⟩, Q0⟩ rfl) ?_
  intro s2 y2 hB2 hy2
  unfold law25_Great_B2 at hB2
  refine Ok.seq ?_
  refine sg ?_
  refine ⟨_, rfl, _, List.length_map _, fun _ => ?_⟩
  refine wT [(1, .b 1 0), (4, vi s2), (34, vb (decide (s2 < (p_d.Loose.length : Int))))] [(1, .box [.s (mU p_d.Synced), .s (mU p_d.Loose), vb p_d.Down])] Q3 J1 rfl ?_
  refine Ok.cond (d := 34) (b := decide (s2 < (p_d.Loose.length : Int))) rfl hB2 (fun hb hB2 => ?_) fun hb hB2 => ?_
  ·refine Ok.skip ?_
   refine Ok.seq ?_
   refine Ok.block ?_
   refine sg ?_
   obtain ⟨x2, hx2, hB2⟩ := bindS hB2
   refine ⟨_, rfl, _, idx_nat hx2, _, idx_row hx2, _, rfl, _, List.length_map _, fun _ => ?_⟩
   refine wT [(1, .b 1 0), (4, vi s2), (44, vb (decide ((x2.Data.length : Int) > 200)))] [(1, .box [.s (mU p_d.Synced), .s (mU p_d.Loose), vb p_d.Down])] Q3 J1 rfl ?_
   refine Ok.cond (d := 44) (b := decide ((x2.Data.length : Int) > 200)) rfl hB2 (fun hb hB2 => ?_) fun hb hB2 => ?_
   ·refine sg ?_
    refine wT [(2, vb true)] [] Q1 Q0 rfl ?_
    refine Ok.ret ?_
    have hB2 := out_ret hB2 hy2
    cases hB2
    exact Fz.v
   refine Ok.skip ?_
   refine rg ?_
   obtain ⟨hc2, hB2⟩ := chk_some hB2
   refine (Or.inl ⟨hc2, ?_⟩)
   exact ⟨_, sj hB2, Wk.tab Q2 J1 rfl⟩
  refine Ok.exit ?_
  have hB2 := out_ret hB2 hy2
  exact ⟨_, hB2, Wk.tab Q1 ⟨⟨_, rfl, .refl _⟩, Q0⟩ rfl⟩
 intro v3 h
 unfold law25_Great_J2 at h
 refine sg ?_
 obtain ⟨x3, hx3, h⟩ := bindS h
 refine ⟨_, rfl, ?_⟩
 refine CallOk.call (w_ref04_Right hx3) (LeL.refl _) ?_
 refine wT [(2, vb (!x3))] [] Q1 Q0 rfl ?_
 refine Ok.ret ?_
 cases h
 exact Fz.v
theorem w_law27_Great {p_disks} {p_l} {r} (h : law27_Great p_disks p_l = some r) : Pure Tryz.prog 10 [(.s (mB p_disks)), (.s (mC p_l))] (vb r) := by
 refine pure_of_ok (n := 39) (c := Tryz.f10.body.getD .skip) Tryz.tok Tryz.func10 (by kernel_rfl) rfl rfl (Nat.le_of_ble_eq_true rfl) ?_
 unfold law27_Great at h
 refine wT [(0, .s (mB p_disks)), (1, .s (mC p_l))] [] Q2 Q0 rfl ?_
 refine sg ?_
 refine wT [(0, .s (mB p_disks)), (1, .s (mC p_l))] [] Q2 Q0 rfl ?_
 refine Ok.seq ?_
 obtain ⟨v1, hv1, h⟩ := bindS h
 refine Ok.seqw ⟨Cat.tab [(0, .s (mB p_disks)), (1, .s (mC p_l)), (14, vb v1)], []⟩ ?_ ?_
 ·refine rg ?_
  refine ⟨_, List.length_map _, fun _ => ?_⟩
  obtain ⟨c1, hg1, hv1⟩ := bindS hv1
  refine Br.itf hg1 (fun hb hg1 => ?_) fun hb hg1 => ?_
  ·cases hg1
   cases hv1
   exact Wk.tab Q3 Q0 rfl
  refine ⟨_, List.length_map _, fun _ => ?_⟩
  cases hg1
  cases hv1
  exact Wk.tab Q3 Q0 rfl
 refine Ok.cond (d := 14) (b := v1) rfl h (fun hb h => ?_) fun hb h => ?_
 ·refine sg ?_
  refine wT [(4, vb true)] [] Q1 Q0 rfl ?_
  refine Ok.ret ?_
  cases h
  exact Fz.v
 refine Ok.skip ?_
 refine Ok.seqj (fun v2 => ⟨Cat.tab [(1, .s (mC p_l))], []⟩) (fun v2 => law27_Great_J1 p_l v2 = some r) ?_ ?_
 ·refine sg ?_
  refine wT [(0, .s (mB p_disks)), (1, .s (mC p_l)), (5, vi (0))] [] Q3 Q0 rfl ?_
  refine Ok.block ?_
  refine Ok.loop (fun (s1 : Int) => ⟨Cat.tab [(0, .s (mB p_disks)), (1, .s (mC p_l)), (5, vi s1)], []⟩) (law27_Great_B1 p_disks p_l) (s0 := 0) h (Wk.tab Q3 Q0 rfl) ?_
  intro s1 y1 hB1 hy1
  unfold law27_Great_B1 at hB1
  refine Ok.seq ?_
  refine sg ?_
  refine ⟨_, List.length_map _, fun _ => ?_⟩
  refine wT [(0, .s (mB p_disks)), (1, .s (mC p_l)), (5, vi s1), (18, vb (decide (s1 < (p_disks.length : Int))))] [] Q4 Q0 rfl ?_
  refine Ok.cond (d := 18) (b := decide (s1 < (p_disks.length : Int))) rfl hB1 (fun hb hB1 => ?_) fun hb hB1 => ?_
  ·refine Ok.skip ?_
   refine Ok.seq ?_
   refine Ok.block ?_
   refine sg ?_
   obtain ⟨x1, hx1, hB1⟩ := bindS hB1
   obtain ⟨x2, hx2, hB1⟩ := bindS hB1
   refine ⟨_, idx_nat hx1, _, idx_row hx1, _, rfl, ?_⟩
   refine CallOk.call (w_law25_Great hx2) (LeL.refl _) ?_
   refine wT [(0, .s (mB p_disks)), (1, .s (mC p_l)), (5, vi s1), (25, vb x2)] [] Q4 Q0 rfl ?_
   refine Ok.cond (d := 25) (b := x2) rfl hB1 (fun hb hB1 => ?_) fun hb hB1 => ?_
   ·refine sg ?_
    refine wT [(4, vb true)] [] Q1 Q0 rfl ?_
    refine Ok.ret ?_
    have hB1 := out_ret hB1 hy1
    cases hB1
    exact Fz.v
   refine Ok.skip ?_
   refine rg ?_
   obtain ⟨hc1, hB1⟩ := chk_some hB1
   refine (Or.inl ⟨hc1, ?_⟩)
   exact ⟨_, sj hB1, Wk.tab Q3 Q0 rfl⟩
  refine Ok.exit ?_
  have hB1 := out_ret hB1 hy1
  exact ⟨_, hB1, Wk.tab Q1 Q0 rfl⟩
 intro v2 h
 unfold law27_Great_J1 at h
 refine Ok.seqj (fun v3 => ⟨Cat.tab [], []⟩) (fun v3 => law27_Great_J2 v3 = some r) ?_ ?_
 ·refine sg ?_
  refine wT [(1, .s (mC p_l)), (6, vi (0))] [] Q2 Q0 rfl ?_
  refine Ok.block ?_
  refine Ok.loop (fun (s2 : Int) => ⟨Cat.tab [(1, .s (mC p_l)), (6, vi s2)], []⟩) (law27_Great_B2 p_l) (s0 := 0) h (Wk.tab Q2 Q0 rfl) ?_
  intro s2 y2 hB2 hy2
  unfold law27_Great_B2 at hB2
  refine Ok.seq ?_
  refine sg ?_
  refine ⟨_, List.length_map _, fun _ => ?_⟩
  refine wT [(1, .s (mC p_l)), (6, vi s2), (29, vb (decide (s2 < (p_l.length : Int))))] [] Q3 Q0 rfl ?_
  refine Ok.cond (d := 29) (b := decide (s2 < (p_l.length : Int))) rfl hB2 (fun hb hB2 => ?_) fun hb hB2 => ?_
  ·refine Ok.skip ?_
   refine Ok.seq ?_
   refine Ok.block ?_
   refine sg ?_
   obtain ⟨x3, hx3, hB2⟩ := bindS hB2
   refine ⟨_, idx_nat hx3, _, idx_row hx3, _, rfl, _, List.length_map _, fun _ => ?_⟩
   refine wT [(1, .s (mC p_l)), (6, vi s2), (38, vb (decide ((x3.Servers.length : Int) > 12)))] [] Q3 Q0 rfl ?_
   refine Ok.cond (d := 38) (b := decide ((x3.Servers.length : Int) > 12)) rfl hB2 (fun hb hB2 => ?_) fun hb hB2 => ?_
   ·refine sg ?_
    refine wT [(4, vb true)] [] Q1 Q0 rfl ?_
    refine Ok.ret ?_
    have hB2 := out_ret hB2 hy2
    cases hB2
    exact Fz.v
   refine Ok.skip ?_
   refine rg ?_
   obtain ⟨hc2, hB2⟩ := chk_some hB2
   refine (Or.inl ⟨hc2, ?_⟩)
   exact ⟨_, sj hB2, Wk.tab Q2 Q0 rfl⟩
  refine Ok.exit ?_
  have hB2 := out_ret hB2 hy2
  exact ⟨_, hB2, Wk.tab Q0 Q0 rfl⟩
 intro v3 h
 unfold law27_Great_J2 at h
 refine sg ?_
 refine wT [(4, vb false)] [] Q1 Q0 rfl ?_
 refine Ok.ret ?_
 cases h
 exact Fz.v
theorem w_ref27_has {p_l} {p_x} {r} (h : ref27_has p_l p_x = some r) : Pure Tryz.prog 41 [(.s (mI p_l)), (vi p_x)] (vb r) := by
 refine pure_of_ok (n := 18) (c := Tryz.f41.body.getD .skip) Tryz.tok Tryz.func41 (by kernel_rfl) rfl rfl (Nat.le_of_ble_eq_true rfl) ?_
 unfold ref27_has at h
 refine wT [(0, .s (mI p_l)), (1, vi p_x)] [] Q2 Q0 rfl ?_
 refine sg ?_
 refine wT [(0, .s (mI p_l)), (1, vi p_x)] [] Q2 Q0 rfl ?_
 refine Ok.seqj (fun v1 => ⟨Cat.tab [], []⟩) (fun v1 => ref27_has_J1 v1 = some r) ?_ ?_
 ·refine sg ?_
  refine wT [(0, .s (mI p_l)), (1, vi p_x), (5, vi (0))] [] Q3 Q0 rfl ?_
  refine Ok.block ?_
  refine Ok.loop (fun (s1 : Int) => ⟨Cat.tab [(0, .s (mI p_l)), (1, vi p_x), (5, vi s1)], []⟩) (ref27_has_B1 p_l p_x) (s0 := 0) h (Wk.tab Q3 Q0 rfl) ?_
  intro s1 y1 hB1 hy1
  unfold ref27_has_B1 at hB1
  refine Ok.seq ?_
  refine sg ?_
  refine ⟨_, List.length_map _, fun _ => ?_⟩
  refine wT [(0, .s (mI p_l)), (1, vi p_x), (5, vi s1), (9, vb (decide (s1 < (p_l.length : Int))))] [] Q4 Q0 rfl ?_
  refine Ok.cond (d := 9) (b := decide (s1 < (p_l.length : Int))) rfl hB1 (fun hb hB1 => ?_) fun hb hB1 => ?_
  ·refine Ok.skip ?_
   refine Ok.seq ?_
   refine Ok.block ?_
   refine sg ?_
   obtain ⟨x1, hx1, hB1⟩ := bindS hB1
   refine ⟨_, idx_nat hx1, _, idx_row hx1, _, rfl, ?_⟩
   refine wT [(0, .s (mI p_l)), (1, vi p_x), (5, vi s1), (17, vb (x1 == p_x))] [] Q4 Q0 rfl ?_
   refine Ok.cond (d := 17) (b := x1 == p_x) rfl hB1 (fun hb hB1 => ?_) fun hb hB1 => ?_
   ·refine sg ?_
    refine wT [(4, vb true)] [] Q1 Q0 rfl ?_
    refine Ok.ret ?_
    have hB1 := out_ret hB1 hy1
    cases hB1
    exact Fz.v
   refine Ok.skip ?_
   refine rg ?_
   obtain ⟨hc1, hB1⟩ := chk_some hB1
   refine (Or.inl ⟨hc1, ?_⟩)
   exact ⟨_, sj hB1, Wk.tab Q3 Q0 rfl⟩
  refine Ok.exit ?_
  have hB1 := out_ret hB1 hy1
  exact ⟨_, hB1, Wk.tab Q0 Q0 rfl⟩
 intro v1 h
 unfold ref27_has_J1 at h
 refine sg ?_
 refine wT [(4, vb false)] [] Q1 Q0 rfl ?_
 refine Ok.ret ?_
 cases h
 exact Fz.v
theorem w_ref27_Right {p_l} {r} (h : ref27_Right p_l = some r) : Pure Tryz.prog 12 [(.s (mC p_l))] (vb r) := by
 refine pure_of_ok (n := 80) (c := Tryz.f12.body.getD .skip) Tryz.tok Tryz.func12 (by kernel_rfl) rfl rfl (Nat.le_of_ble_eq_true rfl) ?_
 unfold ref27_Right at h
 refine wT [(0, .s (mC p_l))] [] Q1 Q0 rfl ?_
 refine sg ?_
 refine wT [(0, .s (mC p_l))] [] Q1 Q0 rfl ?_
 refine Ok.seqj (fun v1 => ⟨Cat.tab [], []⟩) (fun v1 => ref27_Right_J1 v1 = some r) ?_ ?_
 ·refine sg ?_
  refine wT [(0, .s (mC p_l)), (3, vi (0))] [] Q2 Q0 rfl ?_
  refine Ok.block ?_
  refine Ok.loop (fun (s1 : Int) => ⟨Cat.tab [(0, .s (mC p_l)), (3, vi s1)], []⟩) (ref27_Right_B1 p_l) (s0 := 0) h (Wk.tab Q2 Q0 rfl) ?_
  intro s1 y1 hB1 hy1
  unfold ref27_Right_B1 at hB1
  refine Ok.seq ?_
  refine sg ?_
  refine ⟨_, List.length_map _, fun _ => ?_⟩
  refine wT [(0, .s (mC p_l)), (3, vi s1), (9, vb (decide (s1 < (p_l.length : Int))))] [] Q3 Q0 rfl ?_
  refine Ok.cond (d := 9) (b := decide (s1 < (p_l.length : Int))) rfl hB1 (fun hb hB1 => ?_) fun hb hB1 => ?_
  ·refine Ok.skip ?_
   refine Ok.seqj (fun v2 => ⟨Cat.tab [(0, .s (mC p_l)), (3, vi s1)], []⟩) (fun v2 => ref27_Right_J2 s1 v2 = some y1) ?_ ?_
   ·refine Ok.block ?_
    refine sg ?_
    obtain ⟨x1, hx1, hB1⟩ := bindS hB1
    refine ⟨_, idx_nat hx1, _, idx_row hx1, _, rfl, _, rfl, ?_⟩
    refine wT [(0, .s (mC p_l)), (3, vi s1), (4, .b 4 0)] [(4, .box [vi x1.Id, vi x1.Ver, .s (mI x1.Servers)])] Q3 J1 rfl ?_
    refine Ok.seq ?_
    obtain ⟨v3, hv3, hB1⟩ := bindS hB1
    refine Ok.seqw ⟨Cat.tab [(0, .s (mC p_l)), (3, vi s1), (4, .b 4 0), (54, vb v3)], [(4, .box [vi x1.Id, vi x1.Ver, .s (mI x1.Servers)])]⟩ ?_ ?_
    ·refine Ok.draw (m := 39) (MD := ⟨[]⟩) (CH := ⟨[]⟩) Tryz.tok Tryz.mixed (by kernel_rfl) ?_
     refine ⟨_, rfl, _, ⟨_, rfl, rfl⟩, _, rfl, _, rfl, ?_⟩
     obtain ⟨c1, hg1, hv3⟩ := bindS hv3
     refine Br.itf hg1 (fun hb hg1 => ?_) fun hb hg1 => ?_
     ·cases hg1
      refine ⟨_, rfl, ?_⟩
      refine ⟨_, rfl, ?_⟩
      obtain ⟨c2, hg2, hv3⟩ := bindS hv3
      replace hg2 := iteT hg2
      cases hg2
      refine ⟨_, rfl, ?_⟩
      refine ⟨_, rfl, ?_⟩
      obtain ⟨c3, hg3, hv3⟩ := bindS hv3
      replace hg3 := iteT hg3
      cases hg3
      refine ⟨_, rfl, ?_⟩
      refine ⟨_, rfl, ?_⟩
      obtain ⟨c4, hg4, hv3⟩ := bindS hv3
      replace hg4 := iteT hg4
      cases hg4
      refine ⟨_, rfl, ?_⟩
      refine ⟨_, rfl, ?_⟩
      obtain ⟨c6, hg5, hv3⟩ := bindS hv3
      replace hg5 := iteT hg5
      cases hg5
      refine ⟨_, rfl, ?_⟩
      refine ⟨Q0, ?_⟩
      cases hv3
      exact Wk.tab Q4 J1 rfl
     refine ⟨_, rfl, _, ⟨_, rfl, rfl⟩, _, rfl, ?_⟩
     cases hg1
     refine ⟨_, rfl, ?_⟩
     refine ⟨_, rfl, ?_⟩
     obtain ⟨c2, hg6, hv3⟩ := bindS hv3
     refine Br.itf hg6 (fun hb hg6 => ?_) fun hb hg6 => ?_
     ·cases hg6
      refine ⟨_, rfl, ?_⟩
      refine ⟨_, rfl, ?_⟩
      obtain ⟨c3, hg7, hv3⟩ := bindS hv3
      replace hg7 := iteT hg7
      cases hg7
      refine ⟨_, rfl, ?_⟩
      refine ⟨_, rfl, ?_⟩
      obtain ⟨c4, hg8, hv3⟩ := bindS hv3
      replace hg8 := iteT hg8
      cases hg8
      refine ⟨_, rfl, ?_⟩
      refine ⟨_, rfl, ?_⟩
      obtain ⟨c6, hg9, hv3⟩ := bindS hv3
      replace hg9 := iteT hg9
      cases hg9
      refine ⟨_, rfl, ?_⟩
      refine ⟨Q0, ?_⟩
      cases hv3
      exact Wk.tab Q4 J1 rfl
     refine ⟨_, rfl, _, ⟨_, rfl, rfl⟩, _, rfl, ?_⟩
     cases hg6
     refine ⟨_, rfl, ?_⟩
     refine ⟨_, rfl, ?_⟩
     obtain ⟨c3, hg10, hv3⟩ := bindS hv3
     refine Br.itf hg10 (fun hb hg10 => ?_) fun hb hg10 => ?_
     ·cases hg10
      refine ⟨_, rfl, ?_⟩
      refine ⟨_, rfl, ?_⟩
      obtain ⟨c4, hg11, hv3⟩ := bindS hv3
      replace hg11 := iteT hg11
      cases hg11
      refine ⟨_, rfl, ?_⟩
      refine ⟨_, rfl, ?_⟩
      obtain ⟨c6, hg12, hv3⟩ := bindS hv3
      replace hg12 := iteT hg12
      cases hg12
      refine ⟨_, rfl, ?_⟩
      refine ⟨Q0, ?_⟩
      cases hv3
      exact Wk.tab Q4 J1 rfl
     refine ⟨_, rfl, _, ⟨_, rfl, rfl⟩, _, rfl, ?_⟩
     cases hg10
     refine ⟨_, rfl, ?_⟩
     refine ⟨_, rfl, ?_⟩
     obtain ⟨c4, hg13, hv3⟩ := bindS hv3
     refine Br.itf hg13 (fun hb hg13 => ?_) fun hb hg13 => ?_
     ·cases hg13
      refine ⟨_, rfl, ?_⟩
      refine ⟨_, rfl, ?_⟩
      obtain ⟨c6, hg14, hv3⟩ := bindS hv3
      replace hg14 := iteT hg14
      cases hg14
      refine ⟨_, rfl, ?_⟩
      refine ⟨Q0, ?_⟩
      cases hv3
      exact Wk.tab Q4 J1 rfl
     refine ⟨_, rfl, _, ⟨_, rfl, rfl⟩, _, ⟨_, List.length_map _, fun _ => rfl⟩, _, rfl, ?_⟩
     cases hg13
     refine ⟨_, rfl, ?_⟩
     refine ⟨_, rfl, ?_⟩
     obtain ⟨c6, hg15, hv3⟩ := bindS hv3
     refine Br.itf hg15 (fun hb hg15 => ?_) fun hb hg15 => ?_
     ·cases hg15
      refine ⟨_, rfl, ?_⟩
      refine ⟨Q0, ?_⟩
      cases hv3
      exact Wk.tab Q4 J1 rfl
     refine ⟨_, rfl, _, rfl, _, rfl, ?_⟩
     obtain ⟨c5, hg16, hg15⟩ := bindS hg15
     refine Br.ite hg16 (fun hb hg16 => ?_) fun hb hg16 => ?_
     ·obtain ⟨hc1, hg16⟩ := chk_some hg16
      obtain ⟨x2, hx2, hg16⟩ := bindS hg16
      refine ⟨_, rfl, _, rfl, _, Or.inl ⟨hc1, rfl⟩, _, ⟨_, idx_nat hx2, _, idx_row hx2, rfl⟩, _, rfl, _, ⟨_, rfl, rfl⟩, _, rfl, _, ⟨_, rfl, rfl⟩, _, rfl, ?_⟩
      cases hg16
      refine ⟨_, rfl, ?_⟩
      cases hg15
      refine ⟨_, rfl, ?_⟩
      refine ⟨Q0, ?_⟩
      cases hv3
      exact Wk.tab Q4 J1 rfl
     cases hg16
     refine ⟨_, rfl, ?_⟩
     cases hg15
     refine ⟨_, rfl, ?_⟩
     refine ⟨Q0, ?_⟩
     cases hv3
     exact Wk.tab Q4 J1 rfl
    refine Ok.cond (d := 54) (b := v3) rfl hB1 (fun hb hB1 => ?_) fun hb hB1 => ?_
    ·refine sg ?_
     refine wT [(2, vb false)] [] Q1 Q0 rfl ?_
     refine Ok.ret ?_
     have hB1 := out_ret hB1 hy1
     cases hB1
     exact Fz.v
    refine Ok.skip ?_
    refine sg ?_
    refine wT [(0, .s (mC p_l)), (3, vi s1), (4, .b 4 0), (5, vi (0))] [(4, .box [vi x1.Id, vi x1.Ver, .s (mI x1.Servers)])] Q4 J1 rfl ?_
    refine Ok.block ?_
    refine Ok.loop (fun (s2 : Int) => ⟨Cat.tab [(0, .s (mC p_l)), (3, vi s1), (4, .b 4 0), (5, vi s2)], [(4, .box [vi x1.Id, vi x1.Ver, .s (mI x1.Servers)])]⟩) (ref27_Right_B2 x1 s1) (s0 := 0) hB1 (Wk.tab Q4 ⟨⟨_, rfl, .refl _⟩, Q0⟩ rfl) ?_
    intro s2 y2 hB2 hy2
    unfold ref27_Right_B2 at hB2
    refine Ok.seq ?_
    refine sg ?_
    refine ⟨_, rfl, _, List.length_map _, fun _ => ?_⟩
    refine wT [(0, .s (mC p_l)), (3, vi s1), (4, .b 4 0), (5, vi s2), (59, vb (decide (s2 < (x1.Servers.length : Int))))] [(4, .box [vi x1.Id, vi x1.Ver, .s (mI x1.Servers)])] Q5 J1 rfl ?_
    refine Ok.cond (d := 59) (b := decide (s2 < (x1.Servers.length : Int))) rfl hB2 (fun hb hB2 => ?_) fun hb hB2 => ?_
    ·refine Ok.skip ?_
     refine Ok.seq ?_
     refine Ok.block ?_
     obtain ⟨v4, hv4, hB2⟩ := bindS hB2
     refine Ok.seqw ⟨Cat.tab [(0, .s (mC p_l)), (3, vi s1), (4, .b 4 0), (5, vi s2), (79, vb v4)], [(4, .box [vi x1.Id, vi x1.Ver, .s (mI x1.Servers)])]⟩ ?_ ?_
     ·refine Ok.draw (m := 18) (MD := ⟨[]⟩) (CH := ⟨[]⟩) Tryz.tok Tryz.mixed (by kernel_rfl) ?_
      obtain ⟨x3, hx3, hv4⟩ := bindS hv4
      refine ⟨_, rfl, _, ⟨_, rfl, rfl⟩, _, rfl, _, ⟨_, idx_nat hx3, _, idx_row hx3, rfl⟩, _, ⟨_, rfl, rfl⟩, _, rfl, _, rfl, ?_⟩
      obtain ⟨c7, hg17, hv4⟩ := bindS hv4
      refine Br.itf hg17 (fun hb hg17 => ?_) fun hb hg17 => ?_
      ·cases hg17
       refine ⟨_, rfl, ?_⟩
       refine ⟨Q0, ?_⟩
       cases hv4
       exact Wk.tab Q5 J1 rfl
      obtain ⟨hc2, hg17⟩ := chk_some hg17
      obtain ⟨x4, hx4, hg17⟩ := bindS hg17
      obtain ⟨x5, hx5, hg17⟩ := bindS hg17
      refine ⟨_, rfl, _, ⟨_, rfl, rfl⟩, _, rfl, _, ⟨_, sl_nat hc2.1, Nat.zero_le _, sl_len hc2, rowsK (f := Go.Cat.encI) (K := 1) (fun _ => rfl) x1.Servers, _, sl_take _ _ _, rfl⟩, _, rfl, _, ⟨_, rfl, rfl⟩, _, rfl, _, ⟨_, idx_nat hx4, _, idx_row hx4, rfl⟩, _, ⟨_, rfl, rfl⟩, _, ⟨_, .of_pure (w_ref27_has hx5) (LeL.refl _), rfl⟩, ?_⟩
      cases hg17
      refine ⟨_, rfl, ?_⟩
      refine ⟨Q0, ?_⟩
      cases hv4
      exact Wk.tab Q5 J1 rfl
     refine Ok.cond (d := 79) (b := v4) rfl hB2 (fun hb hB2 => ?_) fun hb hB2 => ?_
     ·refine sg ?_
      refine wT [(2, vb false)] [] Q1 Q0 rfl ?_
      refine Ok.ret ?_
      have hB2 := out_ret hB2 hy2
      have hB2 := out_ret hB2 hy1
      cases hB2
      exact Fz.v
     refine Ok.skip ?_
     refine rg ?_
     obtain ⟨hc3, hB2⟩ := chk_some hB2
     refine (Or.inl ⟨hc3, ?_⟩)
     exact ⟨_, sj hB2, Wk.tab Q4 J1 rfl⟩
    refine Ok.exit ?_
    have hB2 := out_ret hB2 hy2
    exact ⟨_, hB2, Wk.tab Q2 Q0 rfl⟩
   intro v2 hB1
   unfold ref27_Right_J2 at hB1
   refine rg ?_
   obtain ⟨hc4, hB1⟩ := chk_some hB1
   refine (Or.inl ⟨hc4, ?_⟩)
   exact ⟨_, sj hB1, Wk.tab Q2 Q0 rfl⟩
  refine Ok.exit ?_
  have hB1 := out_ret hB1 hy1
  exact ⟨_, hB1, Wk.tab Q0 Q0 rfl⟩
 intro v1 h
 unfold ref27_Right_J1 at h
 refine sg ?_
 refine wT [(2, vb true)] [] Q1 Q0 rfl ?_
 refine Ok.ret ?_
 cases h
 exact Fz.v
theorem w_law27_done [Off] {p_disks} {p_l} {r} (h : law27_done p_disks p_l = some r) : Pure Tryz.prog 30 [(.s (mB p_disks)), (.s (mD p_l))] (.t [(.s (mB r.1)), (vb r.2)]) := by
 refine pure_of_ok (n := 35) (c := Tryz.f30.body.getD .skip) Tryz.tok Tryz.func30 (by kernel_rfl) rfl rfl (Nat.le_of_ble_eq_true rfl) ?_
 unfold law27_done at h
 refine wT [(0, .s (mB p_disks)), (1, .s (mD p_l))] [] Q2 Q0 rfl ?_
 refine sg ?_
 refine wT [(0, .s (mB p_disks)), (1, .s (mD p_l))] [] Q2 Q0 rfl ?_
 refine Ok.seqj (fun v1 => ⟨Cat.tab [(0, .s (mB v1))], []⟩) (fun v1 => law27_done_J1 v1 = some r) ?_ ?_
 ·refine sg ?_
  refine wT [(0, .s (mB p_disks)), (1, .s (mD p_l)), (6, vi (0))] [] Q3 Q0 rfl ?_
  refine Ok.block ?_
  refine Ok.loop (fun (s1 : (List api_Disk) × Int) => ⟨Cat.tab [(0, .s (mB s1.1)), (1, .s (mD p_l)), (6, vi s1.2)], []⟩) (law27_done_B1 p_l) (s0 := (p_disks, 0)) h (Wk.tab Q3 Q0 rfl) ?_
  intro s1 y1 hB1 hy1
  unfold law27_done_B1 at hB1
  refine Ok.seq ?_
  refine sg ?_
  refine ⟨_, List.length_map _, fun _ => ?_⟩
  refine wT [(0, .s (mB s1.1)), (1, .s (mD p_l)), (6, vi s1.2), (12, vb (decide (s1.2 < (p_l.length : Int))))] [] Q4 Q0 rfl ?_
  refine Ok.cond (d := 12) (b := decide (s1.2 < (p_l.length : Int))) rfl hB1 (fun hb hB1 => ?_) fun hb hB1 => ?_
  ·refine Ok.skip ?_
   refine Ok.seq ?_
   refine Ok.block ?_
   refine sg ?_
   obtain ⟨x1, hx1, hB1⟩ := bindS hB1
   obtain ⟨x2, hx2, hB1⟩ := bindS hB1
   refine ⟨_, idx_nat hx1, _, idx_row hx1, _, rfl, ?_⟩
   refine CallOk.call (w_scrub_Copy hx2) (LeL.refl _) ?_
   refine wT [(0, .s (mB s1.1)), (1, .s (mD p_l)), (6, vi s1.2), (7, .s (mB x2.1)), (8, vi x2.2)] [] Q5 Q0 rfl ?_
   refine Ok.seq ?_
   obtain ⟨v2, hv2, hB1⟩ := bindS hB1
   refine Ok.seqw ⟨Cat.tab [(1, .s (mD p_l)), (6, vi s1.2), (7, .s (mB x2.1)), (32, vb v2)], []⟩ ?_ ?_
   ·refine rg ?_
    obtain ⟨c1, hg1, hv2⟩ := bindS hv2
    refine Br.itf hg1 (fun hb hg1 => ?_) fun hb hg1 => ?_
    ·cases hg1
     cases hv2
     exact Wk.tab Q4 Q0 rfl
    refine ⟨_, List.length_map _, fun _ => ⟨_, List.length_map _, fun _ => ?_⟩⟩
    cases hg1
    cases hv2
    exact Wk.tab Q4 Q0 rfl
   refine Ok.cond (d := 32) (b := v2) rfl hB1 (fun hb hB1 => ?_) fun hb hB1 => ?_
   ·refine sg ?_
    refine wT [(4, .v (.slice none 0 0)), (5, vb false)] [] Q2 Q0 rfl ?_
    refine Ok.ret ?_
    have hB1 := out_ret hB1 hy1
    cases hB1
    exact (Fz.t (.cons Fz.nil (.cons Fz.v .nil)))
   refine Ok.skip ?_
   refine rg ?_
   refine wT [(0, .s (mB x2.1)), (1, .s (mD p_l)), (6, vi s1.2)] [] Q3 Q0 rfl ?_
   refine rg ?_
   obtain ⟨hc1, hB1⟩ := chk_some hB1
   refine (Or.inl ⟨hc1, ?_⟩)
   exact ⟨_, sj hB1, Wk.tab Q3 Q0 rfl⟩
  refine Ok.exit ?_
  have hB1 := out_ret hB1 hy1
  exact ⟨_, hB1, Wk.tab Q1 Q0 rfl⟩
 intro v1 h
 unfold law27_done_J1 at h
 refine sg ?_
 refine wT [(4, .s (mB v1)), (5, vb true)] [] Q2 Q0 rfl ?_
 refine Ok.ret ?_
 cases h
 exact (Fz.t (.cons Fz.s (.cons Fz.v .nil)))
theorem w_law27_in {p_l} {p_x} {r} (h : law27_in p_l p_x = some r) : Pure Tryz.prog 31 [(.s (mI p_l)), (vi p_x)] (vb r) := by
 refine pure_of_ok (n := 18) (c := Tryz.f31.body.getD .skip) Tryz.tok Tryz.func31 (by kernel_rfl) rfl rfl (Nat.le_of_ble_eq_true rfl) ?_
 unfold law27_in at h
 refine wT [(0, .s (mI p_l)), (1, vi p_x)] [] Q2 Q0 rfl ?_
 refine sg ?_
 refine wT [(0, .s (mI p_l)), (1, vi p_x)] [] Q2 Q0 rfl ?_
 refine Ok.seqj (fun v1 => ⟨Cat.tab [], []⟩) (fun v1 => law27_in_J1 v1 = some r) ?_ ?_
 ·refine sg ?_
  refine wT [(0, .s (mI p_l)), (1, vi p_x), (5, vi (0))] [] Q3 Q0 rfl ?_
  refine Ok.block ?_
  refine Ok.loop (fun (s1 : Int) => ⟨Cat.tab [(0, .s (mI p_l)), (1, vi p_x), (5, vi s1)], []⟩) (law27_in_B1 p_l p_x) (s0 := 0) h (Wk.tab Q3 Q0 rfl) ?_
  intro s1 y1 hB1 hy1
  unfold law27_in_B1 at hB1
  refine Ok.seq ?_
  refine sg ?_
  refine ⟨_, List.length_map _, fun _ => ?_⟩
  refine wT [(0, .s (mI p_l)), (1, vi p_x), (5, vi s1), (9, vb (decide (s1 < (p_l.length : Int))))] [] Q4 Q0 rfl ?_
  refine Ok.cond (d := 9) (b := decide (s1 < (p_l.length : Int))) rfl hB1 (fun hb hB1 => ?_) fun hb hB1 => ?_
  ·refine Ok.skip ?_
   refine Ok.seq ?_
   refine Ok.block ?_
   refine sg ?_
   obtain ⟨x1, hx1, hB1⟩ := bindS hB1
   refine ⟨_, idx_nat hx1, _, idx_row hx1, _, rfl, ?_⟩
   refine wT [(0, .s (mI p_l)), (1, vi p_x), (5, vi s1), (17, vb (x1 == p_x))] [] Q4 Q0 rfl ?_
   refine Ok.cond (d := 17) (b := x1 == p_x) rfl hB1 (fun hb hB1 => ?_) fun hb hB1 => ?_
   ·refine sg ?_
    refine wT [(4, vb true)] [] Q1 Q0 rfl ?_
    refine Ok.ret ?_
    have hB1 := out_ret hB1 hy1
    cases hB1
    exact Fz.v
   refine Ok.skip ?_
   refine rg ?_
   obtain ⟨hc1, hB1⟩ := chk_some hB1
   refine (Or.inl ⟨hc1, ?_⟩)
   exact ⟨_, sj hB1, Wk.tab Q3 Q0 rfl⟩
  refine Ok.exit ?_
  have hB1 := out_ret hB1 hy1
  exact ⟨_, hB1, Wk.tab Q0 Q0 rfl⟩
 intro v1 h
 unfold law27_in_J1 at h
 refine sg ?_
 refine wT [(4, vb false)] [] Q1 Q0 rfl ?_
 refine Ok.ret ?_
 cases h
 exact Fz.v
theorem w_ref02_Bytes {p_a} {p_b} {r} (h : ref02_Bytes p_a p_b = some r) : Pure Tryz.prog 73 [(.s (mA p_a)), (.s (mA p_b))] (vb r) := by
 refine pure_of_ok (n := 26) (c := Tryz.f73.body.getD .skip) Tryz.tok Tryz.func73 (by kernel_rfl) rfl rfl (Nat.le_of_ble_eq_true rfl) ?_
 unfold ref02_Bytes at h
 refine wT [(0, .s (mA p_a)), (1, .s (mA p_b))] [] Q2 Q0 rfl ?_
 refine sg ?_
 refine wT [(0, .s (mA p_a)), (1, .s (mA p_b))] [] Q2 Q0 rfl ?_
 refine Ok.seq ?_
 refine sg ?_
 refine ⟨_, List.length_map _, fun _ => ⟨_, List.length_map _, fun _ => ?_⟩⟩
 refine wT [(0, .s (mA p_a)), (1, .s (mA p_b)), (10, vb ((p_a.length : Int) != (p_b.length : Int)))] [] Q3 Q0 rfl ?_
 refine Ok.cond (d := 10) (b := (p_a.length : Int) != (p_b.length : Int)) rfl h (fun hb h => ?_) fun hb h => ?_
 ·refine sg ?_
  refine wT [(4, vb false)] [] Q1 Q0 rfl ?_
  refine Ok.ret ?_
  cases h
  exact Fz.v
 refine Ok.skip ?_
 refine Ok.seqj (fun v1 => ⟨Cat.tab [], []⟩) (fun v1 => ref02_Bytes_J1 v1 = some r) ?_ ?_
 ·refine sg ?_
  refine wT [(0, .s (mA p_a)), (1, .s (mA p_b)), (5, vi (0))] [] Q3 Q0 rfl ?_
  refine Ok.block ?_
  refine Ok.loop (fun (s1 : Int) => ⟨Cat.tab [(0, .s (mA p_a)), (1, .s (mA p_b)), (5, vi s1)], []⟩) (ref02_Bytes_B1 p_a p_b) (s0 := 0) h (Wk.tab Q3 Q0 rfl) ?_
  intro s1 y1 hB1 hy1
  unfold ref02_Bytes_B1 at hB1
  refine Ok.seq ?_
  refine sg ?_
  refine ⟨_, List.length_map _, fun _ => ?_⟩
  refine wT [(0, .s (mA p_a)), (1, .s (mA p_b)), (5, vi s1), (14, vb (decide (s1 < (p_a.length : Int))))] [] Q4 Q0 rfl ?_
  refine Ok.cond (d := 14) (b := decide (s1 < (p_a.length : Int))) rfl hB1 (fun hb hB1 => ?_) fun hb hB1 => ?_
  ·refine Ok.skip ?_
   refine Ok.seq ?_
   refine Ok.block ?_
   refine Ok.seq ?_
   refine Ok.draw (m := 9) (MD := ⟨[]⟩) (CH := ⟨[]⟩) Tryz.tok Tryz.mixed (by kernel_rfl) ?_
   obtain ⟨x1, hx1, hB1⟩ := bindS hB1
   obtain ⟨x2, hx2, hB1⟩ := bindS hB1
   refine ⟨_, rfl, _, rfl, _, ⟨_, idx_nat hx1, _, idx_row hx1, rfl⟩, _, ⟨_, rfl, rfl⟩, _, rfl, _, rfl, _, ⟨_, idx_nat hx2, _, idx_row hx2, rfl⟩, _, ⟨_, rfl, rfl⟩, _, rfl, Q0, ?_⟩
   refine wT [(0, .s (mA p_a)), (1, .s (mA p_b)), (5, vi s1), (25, vb ((x1.toNat : Int) != (x2.toNat : Int)))] [] Q4 Q0 rfl ?_
   refine Ok.cond (d := 25) (b := (x1.toNat : Int) != (x2.toNat : Int)) rfl hB1 (fun hb hB1 => ?_) fun hb hB1 => ?_
   ·refine sg ?_
    refine wT [(4, vb false)] [] Q1 Q0 rfl ?_
    refine Ok.ret ?_
    have hB1 := out_ret hB1 hy1
    cases hB1
    exact Fz.v
   refine Ok.skip ?_
   refine rg ?_
   obtain ⟨hc1, hB1⟩ := chk_some hB1
   refine (Or.inl ⟨hc1, ?_⟩)
   exact ⟨_, sj hB1, Wk.tab Q3 Q0 rfl⟩
  refine Ok.exit ?_
  have hB1 := out_ret hB1 hy1
  exact ⟨_, hB1, Wk.tab Q0 Q0 rfl⟩
 intro v1 h
 unfold ref02_Bytes_J1 at h
 refine sg ?_
 refine wT [(4, vb true)] [] Q1 Q0 rfl ?_
 refine Ok.ret ?_
 cases h
 exact Fz.v
theorem w_ref25_Same {p_a} {p_b} {r} (h : ref25_Same p_a p_b = some r) : Pure Tryz.prog 32 [(.a [(vi p_a.Id), (vi p_a.Ver), (.s (mA p_a.Data)), (.s (mI p_a.Sums))]), (.a [(vi p_b.Id), (vi p_b.Ver), (.s (mA p_b.Data)), (.s (mI p_b.Sums))])] (vb r) := by
 refine pure_of_ok (n := 31) (c := Tryz.f32.body.getD .skip) Tryz.tok Tryz.func32 (by kernel_rfl) rfl rfl (Nat.le_of_ble_eq_true rfl) ?_
 unfold ref25_Same at h
 refine wT [(0, .a [vi p_a.Id, vi p_a.Ver, .s (mA p_a.Data), .s (mI p_a.Sums)]), (1, .a [vi p_b.Id, vi p_b.Ver, .s (mA p_b.Data), .s (mI p_b.Sums)])] [] Q2 Q0 rfl ?_
 refine sg ?_
 refine wT [(2, .b 2 0), (3, .b 3 0)] [(2, .box [vi p_a.Id, vi p_a.Ver, .s (mA p_a.Data), .s (mI p_a.Sums)]), (3, .box [vi p_b.Id, vi p_b.Ver, .s (mA p_b.Data), .s (mI p_b.Sums)])] Q2 J2 rfl ?_
 obtain ⟨v1, hv1, h⟩ := bindS h
 refine Ok.seqw ⟨Cat.tab [(4, vb v1)], []⟩ ?_ ?_
 ·refine rg ?_
  refine ⟨_, rfl, _, rfl, ?_⟩
  obtain ⟨c1, hg1, hv1⟩ := bindS hv1
  refine Br.ite hg1 (fun hb hg1 => ?_) fun hb hg1 => ?_
  ·refine ⟨_, rfl, _, rfl, ?_⟩
   cases hg1
   obtain ⟨c2, hg2, hv1⟩ := bindS hv1
   refine Br.ite hg2 (fun hb hg2 => ?_) fun hb hg2 => ?_
   ·obtain ⟨x1, hx1, hg2⟩ := bindS hg2
    refine ⟨_, rfl, _, rfl, ?_⟩
    refine CallOk.call (w_ref02_Bytes hx1) (LeL.refl _) ?_
    cases hg2
    obtain ⟨c3, hg3, hv1⟩ := bindS hv1
    refine Br.ite hg3 (fun hb hg3 => ?_) fun hb hg3 => ?_
    ·obtain ⟨x2, hx2, hg3⟩ := bindS hg3
     refine ⟨_, rfl, _, rfl, ?_⟩
     refine CallOk.call (w_ref02_Ints hx2) (LeL.refl _) ?_
     cases hg3
     cases hv1
     exact Wk.tab Q1 Q0 rfl
    cases hg3
    cases hv1
    exact Wk.tab Q1 Q0 rfl
   cases hg2
   obtain ⟨c3, hg4, hv1⟩ := bindS hv1
   replace hg4 := iteF hg4
   cases hg4
   cases hv1
   exact Wk.tab Q1 Q0 rfl
  cases hg1
  obtain ⟨c2, hg5, hv1⟩ := bindS hv1
  replace hg5 := iteF hg5
  cases hg5
  obtain ⟨c3, hg6, hv1⟩ := bindS hv1
  replace hg6 := iteF hg6
  cases hg6
  cases hv1
  exact Wk.tab Q1 Q0 rfl
 refine Ok.ret ?_
 cases h
 exact Fz.v
theorem w_law27_ScrubMends [Off] {p_disks} {p_l} {r} (h : law27_ScrubMends p_disks p_l = some r) : Pure Tryz.prog 6 [(.s (mB p_disks)), (.s (mC p_l))] (vb r) := by
 refine pure_of_ok (n := 261) (c := Tryz.f6.body.getD .skip) Tryz.tok Tryz.func6 (by kernel_rfl) rfl rfl (Nat.le_of_ble_eq_true rfl) ?_
 unfold law27_ScrubMends at h
 refine wT [(0, .s (mB p_disks)), (1, .s (mC p_l))] [] Q2 Q0 rfl ?_
 refine sg ?_
 refine wT [(0, .s (mB p_disks)), (1, .s (mC p_l))] [] Q2 Q0 rfl ?_
 refine sg ?_
 obtain ⟨x1, hx1, h⟩ := bindS h
 refine CallOk.call (w_law27_head hx1) (LeL.refl _) ?_
 refine wT [(0, .s (mB p_disks)), (1, .s (mC p_l)), (5, vb x1)] [] Q3 Q0 rfl ?_
 refine Ok.seq ?_
 obtain ⟨v1, hv1, h⟩ := bindS h
 refine Ok.seqw ⟨Cat.tab [(0, .s (mB p_disks)), (1, .s (mC p_l)), (5, vb x1), (37, vb v1)], []⟩ ?_ ?_
 ·refine rg ?_
  obtain ⟨x2, hx2, hv1⟩ := bindS hv1
  refine CallOk.call (w_law27_Great hx2) (LeL.refl _) ?_
  obtain ⟨c1, hg1, hv1⟩ := bindS hv1
  refine Br.itf hg1 (fun hb hg1 => ?_) fun hb hg1 => ?_
  ·cases hg1
   cases hv1
   exact Wk.tab Q4 Q0 rfl
  obtain ⟨x3, hx3, hg1⟩ := bindS hg1
  refine CallOk.call (w_ref27_Right hx3) (LeL.refl _) ?_
  cases hg1
  cases hv1
  exact Wk.tab Q4 Q0 rfl
 refine Ok.cond (d := 37) (b := v1) rfl h (fun hb h => ?_) fun hb h => ?_
 ·refine sg ?_
  refine wT [(4, vb x1)] [] Q1 Q0 rfl ?_
  refine Ok.ret ?_
  cases h
  exact Fz.v
 refine Ok.skip ?_
 refine sg ?_
 obtain ⟨x4, hx4, h⟩ := bindS h
 refine CallOk.call (w_scrub_Plan hx4) (LeL.refl _) ?_
 refine wT [(0, .s (mB p_disks)), (1, .s (mC p_l)), (5, vb x1), (6, .s (mD x4.1)), (7, .s (mI x4.2))] [] Q5 Q0 rfl ?_
 refine Ok.seq ?_
 refine sg ?_
 refine ⟨_, List.length_map _, fun _ => ?_⟩
 refine wT [(0, .s (mB p_disks)), (1, .s (mC p_l)), (5, vb x1), (6, .s (mD x4.1)), (7, .s (mI x4.2)), (47, vb (decide ((x4.1.length : Int) > 60)))] [] Q6 Q0 rfl ?_
 refine Ok.cond (d := 47) (b := decide ((x4.1.length : Int) > 60)) rfl h (fun hb h => ?_) fun hb h => ?_
 ·refine sg ?_
  refine wT [(4, vb false)] [] Q1 Q0 rfl ?_
  refine Ok.ret ?_
  cases h
  exact Fz.v
 refine Ok.skip ?_
 refine sg ?_
 refine wT [(0, .s (mB p_disks)), (1, .s (mC p_l)), (5, vb x1), (6, .s (mD x4.1)), (7, .s (mI x4.2)), (8, .v (.slice none 0 0))] [] Q6 Q0 rfl ?_
 obtain ⟨v2, hv2, h⟩ := bindS h
 refine Ok.seqw ⟨Cat.tab [(0, .s (mB p_disks)), (1, .s (mC p_l)), (5, vb x1), (6, .s (mD x4.1)), (7, .s (mI x4.2)), (8, .o 61)], [(61, .own 41 6 (mD v2))]⟩ ?_ ?_
 ·refine sg ?_
  obtain ⟨hc1, hv2⟩ := chk_some hv2
  refine ⟨_, List.length_map _, fun _ => (Or.inl ⟨hc1, ?_⟩)⟩
  refine wT [(0, .s (mB p_disks)), (1, .s (mC p_l)), (5, vb x1), (6, .s (mD x4.1)), (7, .s (mI x4.2)), (8, .v (.slice none 0 0)), (9, vi ((x4.1.length : Int) - 1))] [] Q7 Q0 rfl ?_
  refine Ok.block ?_
  refine Ok.loop (fun (s1 : Int × (List api_Job)) => ⟨Cat.tab [(0, .s (mB p_disks)), (1, .s (mC p_l)), (5, vb x1), (6, .s (mD x4.1)), (7, .s (mI x4.2)), (8, .o 61), (9, vi s1.1)], [(61, .own 41 6 (mD s1.2))]⟩) (law27_ScrubMends_B1 x4) (s0 := (((x4.1.length : Int) - 1), [])) hv2 ((Wk.own0 (t := 8) (id := 61) (E := 41) (K := 6) rfl rfl).trans (Wk.tab Q7 ⟨⟨_, rfl, .refl _⟩, Q0⟩ rfl)) ?_
  intro s1 y1 hB1 hy1
  unfold law27_ScrubMends_B1 at hB1
  refine Ok.seq ?_
  refine sg ?_
  refine wT [(0, .s (mB p_disks)), (1, .s (mC p_l)), (5, vb x1), (6, .s (mD x4.1)), (7, .s (mI x4.2)), (8, .o 61), (9, vi s1.1), (52, vb (decide (s1.1 ≥ 0)))] [(61, .own 41 6 (mD s1.2))] Q8 J1 rfl ?_
  refine Ok.cond (d := 52) (b := decide (s1.1 ≥ 0)) rfl hB1 (fun hb hB1 => ?_) fun hb hB1 => ?_
  ·refine Ok.skip ?_
   refine Ok.seq ?_
   refine Ok.block ?_
   refine rg ?_
   obtain ⟨x5, hx5, hB1⟩ := bindS hB1
   obtain ⟨hc2, hB1⟩ := chk_some hB1
   refine ⟨_, idx_nat hx5, _, idx_row hx5, _, rfl, Or.inl ⟨rowsLen_map (f := c_api_Job) (n := 6) (fun _ => rfl) ([x5]), app_b2 (f := c_api_Job) (l := s1.2) (l' := [x5]) hc2, _, (List.map_append (f := c_api_Job) (l₁ := s1.2) (l₂ := [x5])).symm, ?_⟩⟩
   refine wT [(0, .s (mB p_disks)), (1, .s (mC p_l)), (5, vb x1), (6, .s (mD x4.1)), (7, .s (mI x4.2)), (8, .o 61), (9, vi s1.1)] [(61, .own 41 6 (mD (s1.2 ++ [x5])))] Q7 J1 rfl ?_
   refine rg ?_
   obtain ⟨hc3, hB1⟩ := chk_some hB1
   refine (Or.inl ⟨hc3, ?_⟩)
   exact ⟨_, sj hB1, Wk.tab Q7 J1 rfl⟩
  refine Ok.exit ?_
  have hB1 := out_ret hB1 hy1
  cases hB1
  exact Wk.tab Q6 J1 rfl
 refine sg ?_
 obtain ⟨x6, hx6, h⟩ := bindS h
 refine CallOk.call (w_law27_done hx6) (LeL.refl _) ?_
 refine wT [(0, .s (mB p_disks)), (1, .s (mC p_l)), (5, vb x1), (6, .s (mD x4.1)), (7, .s (mI x4.2)), (8, .o 61), (10, .s (mB x6.1)), (11, vb x6.2)] [(61, .own 41 6 (mD v2))] Q8 J1 rfl ?_
 refine sg ?_
 obtain ⟨x7, hx7, h⟩ := bindS h
 refine CallOk.freeze (id := 61) rfl (CallOk.call (w_law27_done hx7) (LeL.refl _) ?_)
 refine wT [(0, .s (mB p_disks)), (1, .s (mC p_l)), (5, vb x1), (6, .s (mD x4.1)), (7, .s (mI x4.2)), (10, .s (mB x6.1)), (11, vb x6.2), (12, .s (mB x7.1)), (13, vb x7.2)] [] ⟨lr, Q8⟩ Q0 rfl ?_
 refine Ok.seq ?_
 obtain ⟨v3, hv3, h⟩ := bindS h
 refine Ok.seqw ⟨Cat.tab [(0, .s (mB p_disks)), (1, .s (mC p_l)), (5, vb x1), (6, .s (mD x4.1)), (7, .s (mI x4.2)), (10, .s (mB x6.1)), (12, .s (mB x7.1)), (79, vb v3)], []⟩ ?_ ?_
 ·refine rg ?_
  obtain ⟨c2, hg2, hv3⟩ := bindS hv3
  refine Br.itf hg2 (fun hb hg2 => ?_) fun hb hg2 => ?_
  ·cases hg2
   cases hv3
   exact Wk.tab Q8 Q0 rfl
  cases hg2
  cases hv3
  exact Wk.tab Q8 Q0 rfl
 refine Ok.cond (d := 79) (b := v3) rfl h (fun hb h => ?_) fun hb h => ?_
 ·refine sg ?_
  refine wT [(4, vb false)] [] Q1 Q0 rfl ?_
  refine Ok.ret ?_
  cases h
  exact Fz.v
 refine Ok.skip ?_
 refine sg ?_
 obtain ⟨x8, hx8, h⟩ := bindS h
 refine CallOk.call (w_scrub_Plan hx8) (LeL.refl _) ?_
 refine wT [(0, .s (mB p_disks)), (1, .s (mC p_l)), (5, vb x1), (6, .s (mD x4.1)), (7, .s (mI x4.2)), (10, .s (mB x6.1)), (12, .s (mB x7.1)), (14, .s (mD x8.1)), (15, .s (mI x8.2))] [] ⟨lr, Q8⟩ Q0 rfl ?_
 refine sg ?_
 obtain ⟨x9, hx9, h⟩ := bindS h
 refine CallOk.call (w_scrub_Plan hx9) (LeL.refl _) ?_
 refine wT [(0, .s (mB p_disks)), (1, .s (mC p_l)), (5, vb x1), (6, .s (mD x4.1)), (7, .s (mI x4.2)), (10, .s (mB x6.1)), (14, .s (mD x8.1)), (15, .s (mI x8.2)), (16, .s (mD x9.1)), (17, .s (mI x9.2))] [] ⟨lr, lr, Q8⟩ Q0 rfl ?_
 refine Ok.seq ?_
 obtain ⟨v4, hv4, h⟩ := bindS h
 refine Ok.seqw ⟨Cat.tab [(0, .s (mB p_disks)), (1, .s (mC p_l)), (5, vb x1), (6, .s (mD x4.1)), (10, .s (mB x6.1)), (109, vb v4)], []⟩ ?_ ?_
 ·refine rg ?_
  obtain ⟨hc4, hv4⟩ := chk_some hv4
  refine ⟨_, List.length_map _, fun _ => ⟨_, List.length_map _, fun _ => (Or.inl ⟨hc4, ?_⟩)⟩⟩
  obtain ⟨c3, hg3, hv4⟩ := bindS hv4
  refine Br.itf hg3 (fun hb hg3 => ?_) fun hb hg3 => ?_
  ·cases hg3
   obtain ⟨c4, hg4, hv4⟩ := bindS hv4
   replace hg4 := iteT hg4
   cases hg4
   cases hv4
   exact Wk.tab Q6 Q0 rfl
  obtain ⟨x10, hx10, hg3⟩ := bindS hg3
  refine CallOk.call (w_ref02_Ints hx10) (LeL.refl _) ?_
  cases hg3
  obtain ⟨c4, hg5, hv4⟩ := bindS hv4
  refine Br.itf hg5 (fun hb hg5 => ?_) fun hb hg5 => ?_
  ·cases hg5
   cases hv4
   exact Wk.tab Q6 Q0 rfl
  obtain ⟨x11, hx11, hg5⟩ := bindS hg5
  refine CallOk.call (w_ref02_Ints hx11) (LeL.refl _) ?_
  cases hg5
  cases hv4
  exact Wk.tab Q6 Q0 rfl
 refine Ok.cond (d := 109) (b := v4) rfl h (fun hb h => ?_) fun hb h => ?_
 ·refine sg ?_
  refine wT [(4, vb false)] [] Q1 Q0 rfl ?_
  refine Ok.ret ?_
  cases h
  exact Fz.v
 refine Ok.skip ?_
 refine Ok.seqj (fun v5 => ⟨Cat.tab [(5, vb x1)], []⟩) (fun v5 => law27_ScrubMends_J1 x1 v5 = some r) ?_ ?_
 ·refine sg ?_
  refine wT [(0, .s (mB p_disks)), (1, .s (mC p_l)), (5, vb x1), (6, .s (mD x4.1)), (10, .s (mB x6.1)), (18, vi (0))] [] Q6 Q0 rfl ?_
  refine Ok.block ?_
  refine Ok.loop (fun (s2 : Int) => ⟨Cat.tab [(0, .s (mB p_disks)), (1, .s (mC p_l)), (5, vb x1), (6, .s (mD x4.1)), (10, .s (mB x6.1)), (18, vi s2)], []⟩) (law27_ScrubMends_B2 p_l p_disks x6 x4 x1) (s0 := 0) h (Wk.tab Q6 Q0 rfl) ?_
  intro s2 y2 hB2 hy2
  unfold law27_ScrubMends_B2 at hB2
  refine Ok.seq ?_
  refine sg ?_
  refine ⟨_, List.length_map _, fun _ => ?_⟩
  refine wT [(0, .s (mB p_disks)), (1, .s (mC p_l)), (5, vb x1), (6, .s (mD x4.1)), (10, .s (mB x6.1)), (18, vi s2), (113, vb (decide (s2 < (p_l.length : Int))))] [] Q7 Q0 rfl ?_
  refine Ok.cond (d := 113) (b := decide (s2 < (p_l.length : Int))) rfl hB2 (fun hb hB2 => ?_) fun hb hB2 => ?_
  ·refine Ok.skip ?_
   refine Ok.seqj (fun v6 => ⟨Cat.tab [(0, .s (mB p_disks)), (1, .s (mC p_l)), (5, vb x1), (6, .s (mD x4.1)), (10, .s (mB x6.1)), (18, vi s2)], []⟩) (fun v6 => law27_ScrubMends_J2 s2 v6 = some y2) ?_ ?_
   ·refine Ok.block ?_
    refine sg ?_
    obtain ⟨x12, hx12, hB2⟩ := bindS hB2
    obtain ⟨x13, hx13, hB2⟩ := bindS hB2
    refine ⟨_, idx_nat hx12, _, idx_row hx12, _, rfl, ?_⟩
    refine CallOk.call (w_scrub_Intact hx13) (LeL.refl _) ?_
    refine wT [(0, .s (mB p_disks)), (1, .s (mC p_l)), (5, vb x1), (6, .s (mD x4.1)), (10, .s (mB x6.1)), (18, vi s2), (19, .s (mI x13))] [] Q7 Q0 rfl ?_
    refine Ok.seq ?_
    refine sg ?_
    refine ⟨_, List.length_map _, fun _ => ?_⟩
    refine wT [(0, .s (mB p_disks)), (1, .s (mC p_l)), (5, vb x1), (6, .s (mD x4.1)), (10, .s (mB x6.1)), (18, vi s2), (19, .s (mI x13)), (124, vb ((x13.length : Int) == 0))] [] Q8 Q0 rfl ?_
    refine Ok.cond (d := 124) (b := (x13.length : Int) == 0) rfl hB2 (fun hb hB2 => ?_) fun hb hB2 => ?_
    ·refine Ok.exit ?_
     exact ⟨_, hB2, Wk.tab Q6 Q0 rfl⟩
    refine Ok.skip ?_
    refine sg ?_
    obtain ⟨x14, hx14, hB2⟩ := bindS hB2
    obtain ⟨x15, hx15, hB2⟩ := bindS hB2
    refine ⟨_, idx_nat hx14, _, idx_row hx14, _, rfl, ?_⟩
    refine CallOk.call (w_scrub_Intact hx15) (LeL.refl _) ?_
    refine wT [(0, .s (mB p_disks)), (1, .s (mC p_l)), (5, vb x1), (6, .s (mD x4.1)), (10, .s (mB x6.1)), (18, vi s2), (19, .s (mI x13)), (20, .s (mI x15))] [] Q8 Q0 rfl ?_
    refine sg ?_
    refine wT [(0, .s (mB p_disks)), (1, .s (mC p_l)), (5, vb x1), (6, .s (mD x4.1)), (10, .s (mB x6.1)), (18, vi s2), (19, .s (mI x13)), (20, .s (mI x15)), (21, vi (0))] [] ⟨lr, Q8⟩ Q0 rfl ?_
    refine Ok.block ?_
    refine Ok.loop (fun (s3 : Int) => ⟨Cat.tab [(0, .s (mB p_disks)), (1, .s (mC p_l)), (5, vb x1), (6, .s (mD x4.1)), (10, .s (mB x6.1)), (18, vi s2), (19, .s (mI x13)), (20, .s (mI x15)), (21, vi s3)], []⟩) (law27_ScrubMends_B3 p_l s2 p_disks x4 x13 x6 x15) (s0 := 0) hB2 (Wk.tab ⟨lr, Q8⟩ Q0 rfl) ?_
    intro s3 y3 hB3 hy3
    unfold law27_ScrubMends_B3 at hB3
    refine Ok.seq ?_
    refine sg ?_
    obtain ⟨x16, hx16, hB3⟩ := bindS hB3
    refine ⟨_, idx_nat hx16, _, idx_row hx16, _, rfl, _, List.length_map _, fun _ => ?_⟩
    refine wT [(0, .s (mB p_disks)), (1, .s (mC p_l)), (5, vb x1), (6, .s (mD x4.1)), (10, .s (mB x6.1)), (18, vi s2), (19, .s (mI x13)), (20, .s (mI x15)), (21, vi s3), (138, vb (decide (s3 < (x16.Servers.length : Int))))] [] ⟨lr, lr, Q8⟩ Q0 rfl ?_
    refine Ok.cond (d := 138) (b := decide (s3 < (x16.Servers.length : Int))) rfl hB3 (fun hb hB3 => ?_) fun hb hB3 => ?_
    ·refine Ok.skip ?_
     refine Ok.seqj (fun v7 => ⟨Cat.tab [(0, .s (mB p_disks)), (1, .s (mC p_l)), (5, vb x1), (6, .s (mD x4.1)), (10, .s (mB x6.1)), (18, vi s2), (19, .s (mI x13)), (20, .s (mI x15)), (21, vi s3)], []⟩) (fun v7 => law27_ScrubMends_J3 s3 v7 = some y3) ?_ ?_
     ·refine Ok.block ?_
      refine sg ?_
      obtain ⟨x17, hx17, hB3⟩ := bindS hB3
      obtain ⟨x18, hx18, hB3⟩ := bindS hB3
      refine ⟨_, idx_nat hx17, _, idx_row hx17, _, rfl, _, idx_nat hx18, _, idx_row hx18, _, rfl, ?_⟩
      refine wT [(0, .s (mB p_disks)), (1, .s (mC p_l)), (5, vb x1), (6, .s (mD x4.1)), (10, .s (mB x6.1)), (18, vi s2), (19, .s (mI x13)), (20, .s (mI x15)), (21, vi s3), (22, vi x18)] [] ⟨lr, lr, Q8⟩ Q0 rfl ?_
      refine Ok.seq ?_
      obtain ⟨v8, hv8, hB3⟩ := bindS hB3
      refine Ok.seqw ⟨Cat.tab [(0, .s (mB p_disks)), (1, .s (mC p_l)), (5, vb x1), (6, .s (mD x4.1)), (10, .s (mB x6.1)), (18, vi s2), (19, .s (mI x13)), (20, .s (mI x15)), (21, vi s3), (22, vi x18), (159, vb v8)], []⟩ ?_ ?_
      ·refine rg ?_
       refine ⟨_, List.length_map _, fun _ => ?_⟩
       obtain ⟨c5, hg6, hv8⟩ := bindS hv8
       refine Br.itf hg6 (fun hb hg6 => ?_) fun hb hg6 => ?_
       ·cases hg6
        cases hv8
        exact Wk.tab ⟨lr, lr, lr, Q8⟩ Q0 rfl
       obtain ⟨x19, hx19, hg6⟩ := bindS hg6
       refine ⟨_, idx_nat hx19, _, idx_row hx19, _, rfl, ?_⟩
       cases hg6
       cases hv8
       exact Wk.tab ⟨lr, lr, lr, Q8⟩ Q0 rfl
      refine Ok.cond (d := 159) (b := v8) rfl hB3 (fun hb hB3 => ?_) fun hb hB3 => ?_
      ·refine Ok.exit ?_
       exact ⟨_, hB3, Wk.tab ⟨lr, Q8⟩ Q0 rfl⟩
      refine Ok.skip ?_
      refine sg ?_
      refine wT [(0, .s (mB p_disks)), (1, .s (mC p_l)), (5, vb x1), (6, .s (mD x4.1)), (10, .s (mB x6.1)), (18, vi s2), (19, .s (mI x13)), (20, .s (mI x15)), (21, vi s3), (22, vi x18), (23, vi x18)] [] ⟨lr, lr, lr, Q8⟩ Q0 rfl ?_
      obtain ⟨v9, hv9, hB3⟩ := bindS hB3
      refine Ok.seqw ⟨Cat.tab [(0, .s (mB p_disks)), (1, .s (mC p_l)), (5, vb x1), (6, .s (mD x4.1)), (10, .s (mB x6.1)), (18, vi s2), (19, .s (mI x13)), (20, .s (mI x15)), (21, vi s3), (22, vi x18), (23, vi v9)], []⟩ ?_ ?_
      ·refine sg ?_
       refine wT [(0, .s (mB p_disks)), (1, .s (mC p_l)), (5, vb x1), (6, .s (mD x4.1)), (10, .s (mB x6.1)), (18, vi s2), (19, .s (mI x13)), (20, .s (mI x15)), (21, vi s3), (22, vi x18), (23, vi x18), (24, vi (0))] [] ⟨lr, lr, lr, lr, Q8⟩ Q0 rfl ?_
       refine Ok.block ?_
       refine Ok.loop (fun (s4 : Int × Int) => ⟨Cat.tab [(0, .s (mB p_disks)), (1, .s (mC p_l)), (5, vb x1), (6, .s (mD x4.1)), (10, .s (mB x6.1)), (18, vi s2), (19, .s (mI x13)), (20, .s (mI x15)), (21, vi s3), (22, vi x18), (23, vi s4.1), (24, vi s4.2)], []⟩) (law27_ScrubMends_B4 x4 p_l s2 x18) (s0 := (x18, 0)) hv9 (Wk.tab ⟨lr, lr, lr, lr, Q8⟩ Q0 rfl) ?_
       intro s4 y4 hB4 hy4
       unfold law27_ScrubMends_B4 at hB4
       refine Ok.seq ?_
       refine sg ?_
       refine ⟨_, List.length_map _, fun _ => ?_⟩
       refine wT [(0, .s (mB p_disks)), (1, .s (mC p_l)), (5, vb x1), (6, .s (mD x4.1)), (10, .s (mB x6.1)), (18, vi s2), (19, .s (mI x13)), (20, .s (mI x15)), (21, vi s3), (22, vi x18), (23, vi s4.1), (24, vi s4.2), (164, vb (decide (s4.2 < (x4.1.length : Int))))] [] ⟨lr, lr, lr, lr, lr, Q8⟩ Q0 rfl ?_
       refine Ok.cond (d := 164) (b := decide (s4.2 < (x4.1.length : Int))) rfl hB4 (fun hb hB4 => ?_) fun hb hB4 => ?_
       ·refine Ok.skip ?_
        obtain ⟨v10, hv10, hB4⟩ := bindS hB4
        refine Ok.seqw ⟨Cat.tab [(0, .s (mB p_disks)), (1, .s (mC p_l)), (5, vb x1), (6, .s (mD x4.1)), (10, .s (mB x6.1)), (18, vi s2), (19, .s (mI x13)), (20, .s (mI x15)), (21, vi s3), (22, vi x18), (23, vi v10), (24, vi s4.2)], []⟩ ?_ ?_
        ·refine Ok.block ?_
         obtain ⟨v11, hv11, hv10⟩ := bindS hv10
         refine Ok.seqw ⟨Cat.tab [(0, .s (mB p_disks)), (1, .s (mC p_l)), (5, vb x1), (6, .s (mD x4.1)), (10, .s (mB x6.1)), (18, vi s2), (19, .s (mI x13)), (20, .s (mI x15)), (21, vi s3), (22, vi x18), (23, vi s4.1), (24, vi s4.2), (186, vb v11)], []⟩ ?_ ?_
         ·refine Ok.draw (m := 20) (MD := ⟨[]⟩) (CH := ⟨[]⟩) Tryz.tok Tryz.mixed (by kernel_rfl) ?_
          obtain ⟨x20, hx20, hv11⟩ := bindS hv11
          obtain ⟨x21, hx21, hv11⟩ := bindS hv11
          refine ⟨_, rfl, _, rfl, _, ⟨_, idx_nat hx20, _, idx_row hx20, rfl⟩, _, rfl, _, ⟨_, rfl, rfl⟩, _, rfl, _, rfl, _, ⟨_, idx_nat hx21, _, idx_row hx21, rfl⟩, _, rfl, _, ⟨_, rfl, rfl⟩, _, rfl, _, rfl, ?_⟩
          obtain ⟨c6, hg7, hv11⟩ := bindS hv11
          refine Br.ite hg7 (fun hb hg7 => ?_) fun hb hg7 => ?_
          ·obtain ⟨x22, hx22, hg7⟩ := bindS hg7
           refine ⟨_, rfl, _, rfl, _, ⟨_, idx_nat hx22, _, idx_row hx22, rfl⟩, _, rfl, _, ⟨_, rfl, rfl⟩, _, rfl, _, rfl, ?_⟩
           cases hg7
           refine ⟨_, rfl, ?_⟩
           refine ⟨Q0, ?_⟩
           cases hv11
           exact Wk.tab ⟨lr, lr, lr, lr, lr, Q8⟩ Q0 rfl
          cases hg7
          refine ⟨_, rfl, ?_⟩
          refine ⟨Q0, ?_⟩
          cases hv11
          exact Wk.tab ⟨lr, lr, lr, lr, lr, Q8⟩ Q0 rfl
         refine Ok.cond (d := 186) (b := v11) rfl hv10 (fun hb hv10 => ?_) fun hb hv10 => ?_
         ·refine rg ?_
          obtain ⟨x23, hx23, hv10⟩ := bindS hv10
          refine ⟨_, idx_nat hx23, _, idx_row hx23, _, rfl, ?_⟩
          cases hv10
          exact Wk.tab ⟨lr, lr, lr, lr, Q8⟩ Q0 rfl
         refine Ok.skip ?_
         cases hv10
         exact Wk.tab ⟨lr, lr, lr, lr, Q8⟩ Q0 rfl
        refine rg ?_
        obtain ⟨hc5, hB4⟩ := chk_some hB4
        refine (Or.inl ⟨hc5, ?_⟩)
        exact ⟨_, sj hB4, Wk.tab ⟨lr, lr, lr, lr, Q8⟩ Q0 rfl⟩
       refine Ok.exit ?_
       have hB4 := out_ret hB4 hy4
       cases hB4
       exact Wk.tab ⟨lr, lr, lr, Q8⟩ Q0 rfl
      refine Ok.seq ?_
      obtain ⟨v12, hv12, hB3⟩ := bindS hB3
      refine Ok.seqw ⟨Cat.tab [(0, .s (mB p_disks)), (1, .s (mC p_l)), (5, vb x1), (6, .s (mD x4.1)), (10, .s (mB x6.1)), (18, vi s2), (19, .s (mI x13)), (20, .s (mI x15)), (21, vi s3), (22, vi x18), (23, vi v9), (205, vb v12)], []⟩ ?_ ?_
      ·refine rg ?_
       obtain ⟨x24, hx24, hv12⟩ := bindS hv12
       refine CallOk.call (w_law27_in hx24) (LeL.refl _) ?_
       obtain ⟨c7, hg8, hv12⟩ := bindS hv12
       refine Br.itf hg8 (fun hb hg8 => ?_) fun hb hg8 => ?_
       ·cases hg8
        obtain ⟨c8, hg9, hv12⟩ := bindS hv12
        replace hg9 := iteT hg9
        cases hg9
        cases hv12
        exact Wk.tab ⟨lr, lr, lr, lr, Q8⟩ Q0 rfl
       cases hg8
       obtain ⟨c8, hg10, hv12⟩ := bindS hv12
       refine Br.itf hg10 (fun hb hg10 => ?_) fun hb hg10 => ?_
       ·cases hg10
        cases hv12
        exact Wk.tab ⟨lr, lr, lr, lr, Q8⟩ Q0 rfl
       refine ⟨_, List.length_map _, fun _ => ?_⟩
       cases hg10
       cases hv12
       exact Wk.tab ⟨lr, lr, lr, lr, Q8⟩ Q0 rfl
      refine Ok.cond (d := 205) (b := v12) rfl hB3 (fun hb hB3 => ?_) fun hb hB3 => ?_
      ·refine sg ?_
       refine wT [(4, vb false)] [] Q1 Q0 rfl ?_
       refine Ok.ret ?_
       have hB3 := out_ret hB3 hy3
       have hB3 := out_ret hB3 hy2
       cases hB3
       exact Fz.v
      refine Ok.skip ?_
      refine Ok.seq ?_
      refine Ok.draw2 (m := 14) (late := [12]) (MD := ⟨[]⟩) (CH := ⟨[]⟩) Tryz.tok Tryz.mixed (by kernel_rfl) ?_
      obtain ⟨x25, hx25, hB3⟩ := bindS hB3
      obtain ⟨x26, hx26, hB3⟩ := bindS hB3
      obtain ⟨x27, hx27, hB3⟩ := bindS hB3
      refine ⟨_, rfl, _, rfl, _, ⟨_, idx_nat hx25, _, idx_row hx25, rfl⟩, _, ⟨_, rfl, rfl⟩, _, rfl, _, rfl, _, ⟨_, idx_nat hx26, _, idx_row hx26, rfl⟩, _, rfl, _, ⟨_, rfl, rfl⟩, _, ⟨_, .of_pure (w_chunk_Get hx27) (LeL.refl _), rfl⟩, _, rfl, _, rfl, _, rfl, Q0, ?_⟩
      refine ⟨_, rfl, ⟨⟨_, rfl, rfl⟩, Q0⟩, ?_⟩
      refine wT [(0, .s (mB p_disks)), (1, .s (mC p_l)), (5, vb x1), (6, .s (mD x4.1)), (10, .s (mB x6.1)), (18, vi s2), (19, .s (mI x13)), (20, .s (mI x15)), (21, vi s3), (22, vi x18), (25, .b 25 0), (26, vi x27.2)] [(25, .box [vi x27.1.Id, vi x27.1.Ver, .s (mA x27.1.Data), .s (mI x27.1.Sums)])] ⟨lr, lr, lr, lr, Q8⟩ J1 rfl ?_
      refine Ok.seq ?_
      refine Ok.draw2 (m := 14) (late := [12]) (MD := ⟨[]⟩) (CH := ⟨[]⟩) Tryz.tok Tryz.mixed (by kernel_rfl) ?_
      obtain ⟨x28, hx28, hB3⟩ := bindS hB3
      obtain ⟨x29, hx29, hB3⟩ := bindS hB3
      obtain ⟨x30, hx30, hB3⟩ := bindS hB3
      refine ⟨_, rfl, _, rfl, _, ⟨_, idx_nat hx28, _, idx_row hx28, rfl⟩, _, ⟨_, rfl, rfl⟩, _, rfl, _, rfl, _, ⟨_, idx_nat hx29, _, idx_row hx29, rfl⟩, _, rfl, _, ⟨_, rfl, rfl⟩, _, ⟨_, .of_pure (w_chunk_Get hx30) (LeL.refl _), rfl⟩, _, rfl, _, rfl, _, rfl, Q0, ?_⟩
      refine ⟨_, rfl, ⟨⟨_, rfl, rfl⟩, Q0⟩, ?_⟩
      refine wT [(0, .s (mB p_disks)), (1, .s (mC p_l)), (5, vb x1), (6, .s (mD x4.1)), (10, .s (mB x6.1)), (18, vi s2), (19, .s (mI x13)), (20, .s (mI x15)), (21, vi s3), (22, vi x18), (25, .b 25 0), (26, vi x27.2), (27, .b 27 0), (28, vi x30.2)] [(25, .box [vi x27.1.Id, vi x27.1.Ver, .s (mA x27.1.Data), .s (mI x27.1.Sums)]), (27, .box [vi x30.1.Id, vi x30.1.Ver, .s (mA x30.1.Data), .s (mI x30.1.Sums)])] ⟨lr, lr, lr, lr, lr, lr, Q8⟩ J2 rfl ?_
      obtain ⟨v13, hv13, hB3⟩ := bindS hB3
      refine Ok.seqw ⟨Cat.tab [(0, .s (mB p_disks)), (1, .s (mC p_l)), (5, vb x1), (6, .s (mD x4.1)), (10, .s (mB x6.1)), (18, vi s2), (19, .s (mI x13)), (20, .s (mI x15)), (21, vi s3), (259, vb v13)], []⟩ ?_ ?_
      ·refine Ok.draw (m := 28) (MD := ⟨[]⟩) (CH := ⟨[]⟩) Tryz.tok Tryz.mixed (by kernel_rfl) ?_
       refine ⟨_, rfl, _, rfl, _, rfl, ?_⟩
       obtain ⟨c9, hg11, hv13⟩ := bindS hv13
       refine Br.itf hg11 (fun hb hg11 => ?_) fun hb hg11 => ?_
       ·cases hg11
        refine ⟨_, rfl, ?_⟩
        refine ⟨_, rfl, ?_⟩
        obtain ⟨c10, hg12, hv13⟩ := bindS hv13
        replace hg12 := iteT hg12
        cases hg12
        refine ⟨_, rfl, ?_⟩
        refine ⟨_, rfl, ?_⟩
        obtain ⟨c11, hg13, hv13⟩ := bindS hv13
        replace hg13 := iteT hg13
        cases hg13
        refine ⟨_, rfl, ?_⟩
        refine ⟨_, rfl, ?_⟩
        obtain ⟨c12, hg14, hv13⟩ := bindS hv13
        replace hg14 := iteT hg14
        cases hg14
        refine ⟨_, rfl, ?_⟩
        refine ⟨Q0, ?_⟩
        cases hv13
        exact Wk.tab ⟨lr, lr, Q8⟩ Q0 rfl
       refine ⟨_, rfl, _, rfl, ?_⟩
       cases hg11
       refine ⟨_, rfl, ?_⟩
       refine ⟨_, rfl, ?_⟩
       obtain ⟨c10, hg15, hv13⟩ := bindS hv13
       refine Br.itf hg15 (fun hb hg15 => ?_) fun hb hg15 => ?_
       ·cases hg15
        refine ⟨_, rfl, ?_⟩
        refine ⟨_, rfl, ?_⟩
        obtain ⟨c11, hg16, hv13⟩ := bindS hv13
        replace hg16 := iteT hg16
        cases hg16
        refine ⟨_, rfl, ?_⟩
        refine ⟨_, rfl, ?_⟩
        obtain ⟨c12, hg17, hv13⟩ := bindS hv13
        replace hg17 := iteT hg17
        cases hg17
        refine ⟨_, rfl, ?_⟩
        refine ⟨Q0, ?_⟩
        cases hv13
        exact Wk.tab ⟨lr, lr, Q8⟩ Q0 rfl
       obtain ⟨x31, hx31, hg15⟩ := bindS hg15
       refine ⟨_, rfl, _, ⟨_, rfl, rfl⟩, _, rfl, _, rfl, _, ⟨_, idx_nat hx31, _, idx_row hx31, rfl⟩, _, rfl, _, ⟨_, rfl, rfl⟩, _, rfl, ?_⟩
       cases hg15
       refine ⟨_, rfl, ?_⟩
       refine ⟨_, rfl, ?_⟩
       obtain ⟨c11, hg18, hv13⟩ := bindS hv13
       refine Br.itf hg18 (fun hb hg18 => ?_) fun hb hg18 => ?_
       ·cases hg18
        refine ⟨_, rfl, ?_⟩
        refine ⟨_, rfl, ?_⟩
        obtain ⟨c12, hg19, hv13⟩ := bindS hv13
        replace hg19 := iteT hg19
        cases hg19
        refine ⟨_, rfl, ?_⟩
        refine ⟨Q0, ?_⟩
        cases hv13
        exact Wk.tab ⟨lr, lr, Q8⟩ Q0 rfl
       obtain ⟨x32, hx32, hg18⟩ := bindS hg18
       refine ⟨_, rfl, _, rfl, _, ⟨_, .of_pure (w_law27_in hx32) (LeL.refl _), rfl⟩, _, rfl, ?_⟩
       cases hg18
       refine ⟨_, rfl, ?_⟩
       refine ⟨_, rfl, ?_⟩
       obtain ⟨c12, hg20, hv13⟩ := bindS hv13
       refine Br.itf hg20 (fun hb hg20 => ?_) fun hb hg20 => ?_
       ·cases hg20
        refine ⟨_, rfl, ?_⟩
        refine ⟨Q0, ?_⟩
        cases hv13
        exact Wk.tab ⟨lr, lr, Q8⟩ Q0 rfl
       obtain ⟨x33, hx33, hg20⟩ := bindS hg20
       refine ⟨_, ⟨_, rfl, rfl⟩, _, ⟨_, rfl, rfl⟩, _, ⟨_, .of_pure (w_ref25_Same hx33) (LeL.refl _), rfl⟩, _, rfl, ?_⟩
       cases hg20
       refine ⟨_, rfl, ?_⟩
       refine ⟨Q0, ?_⟩
       cases hv13
       exact Wk.tab ⟨lr, lr, Q8⟩ Q0 rfl
      refine Ok.cond (d := 259) (b := v13) rfl hB3 (fun hb hB3 => ?_) fun hb hB3 => ?_
      ·refine sg ?_
       refine wT [(4, vb false)] [] Q1 Q0 rfl ?_
       refine Ok.ret ?_
       have hB3 := out_ret hB3 hy3
       have hB3 := out_ret hB3 hy2
       cases hB3
       exact Fz.v
      refine Ok.skip ?_
      exact ⟨_, hB3, Wk.tab ⟨lr, Q8⟩ Q0 rfl⟩
     intro v7 hB3
     unfold law27_ScrubMends_J3 at hB3
     refine rg ?_
     obtain ⟨hc6, hB3⟩ := chk_some hB3
     refine (Or.inl ⟨hc6, ?_⟩)
     exact ⟨_, sj hB3, Wk.tab ⟨lr, Q8⟩ Q0 rfl⟩
    refine Ok.exit ?_
    have hB3 := out_ret hB3 hy3
    exact ⟨_, hB3, Wk.tab Q6 Q0 rfl⟩
   intro v6 hB2
   unfold law27_ScrubMends_J2 at hB2
   refine rg ?_
   obtain ⟨hc7, hB2⟩ := chk_some hB2
   refine (Or.inl ⟨hc7, ?_⟩)
   exact ⟨_, sj hB2, Wk.tab Q6 Q0 rfl⟩
  refine Ok.exit ?_
  have hB2 := out_ret hB2 hy2
  exact ⟨_, hB2, Wk.tab Q1 Q0 rfl⟩
 intro v5 h
 unfold law27_ScrubMends_J1 at h
 refine sg ?_
 refine wT [(4, vb x1)] [] Q1 Q0 rfl ?_
 refine Ok.ret ?_
 cases h
 exact Fz.v
end Go.Proofs
