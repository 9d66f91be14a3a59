/- The walks of this seat beside the plain programs, part 3. No condition. -/
import Derived.Test.YtpohijpdclienaaGreatXScrubCleanEn
import Derived.Test.YtpohijpdclienaaGreatXScrubCleanWk0
import Derived.Test.YtpohijpdclienaaGreatXScrubCleanWk1
import Derived.Test.YtpohijpdclienaaGreatXScrubCleanWk2
namespace Go.Proofs
set_option linter.all false
open Go Go.Cat
variable [M : Mono]
set_option maxRecDepth 100000
theorem w_law25_Great {p_d} {r} (h : law25_Great p_d = some r) : Pure Tryz.prog 37 [(.a [(.s (mU p_d.Synced)), (.s (mU p_d.Loose)), (vb p_d.Down)])] (vb r) := by
 refine pure_of_ok (n := 48) (c := Tryz.f37.body.getD .skip) Tryz.tok Tryz.func37 (by kernel_rfl) rfl rfl (Nat.le_of_ble_eq_true rfl) ?_
 unfold law25_Great at h
 refine wT [(0, .a [.s (mU p_d.Synced), .s (mU p_d.Loose), vb p_d.Down])] [] Q1 Q0 rfl ?_
 refine sg ?_
 refine wT [(1, .b 1 0)] [(1, .box [.s (mU p_d.Synced), .s (mU p_d.Loose), vb p_d.Down])] Q1 J1 rfl ?_
 refine Ok.seq ?_
 obtain ⟨v1, hv1, h⟩ := bindS h
 refine Ok.seqw ⟨Cat.tab [(1, .b 1 0), (14, vb v1)], [(1, .box [.s (mU p_d.Synced), .s (mU p_d.Loose), vb p_d.Down])]⟩ ?_ ?_
 ·refine rg ?_
  refine ⟨_, rfl, _, List.length_map _, fun _ => ?_⟩
  obtain ⟨c1, hg1, hv1⟩ := bindS hv1
  refine Br.itf hg1 (fun hb hg1 => ?_) fun hb hg1 => ?_
  ·cases hg1
   cases hv1
   exact Wk.tab Q2 J1 rfl
  refine ⟨_, rfl, _, List.length_map _, fun _ => ?_⟩
  cases hg1
  cases hv1
  exact Wk.tab Q2 J1 rfl
 refine Ok.cond (d := 14) (b := v1) rfl h (fun hb h => ?_) fun hb h => ?_
 ·refine sg ?_
  refine wT [(2, vb true)] [] Q1 Q0 rfl ?_
  refine Ok.ret ?_
  cases h
  exact Fz.v
 refine Ok.skip ?_
 refine Ok.seqj (fun v2 => ⟨Cat.tab [(1, .b 1 0)], [(1, .box [.s (mU p_d.Synced), .s (mU p_d.Loose), vb p_d.Down])]⟩) (fun v2 => law25_Great_J1 p_d v2 = some r) ?_ ?_
 ·refine sg ?_
  refine wT [(1, .b 1 0), (3, vi (0))] [(1, .box [.s (mU p_d.Synced), .s (mU p_d.Loose), vb p_d.Down])] Q2 J1 rfl ?_
  refine Ok.block ?_
  refine Ok.loop (fun (s1 : Int) => ⟨Cat.tab [(1, .b 1 0), (3, vi s1)], [(1, .box [.s (mU p_d.Synced), .s (mU p_d.Loose), vb p_d.Down])]⟩) (law25_Great_B1 p_d) (s0 := 0) h (Wk.tab Q2 ⟨⟨_, rfl, .refl _⟩, Q0⟩ rfl) ?_
  intro s1 y1 hB1 hy1
  unfold law25_Great_B1 at hB1
  refine Ok.seq ?_
  refine sg ?_
  refine ⟨_, rfl, _, List.length_map _, fun _ => ?_⟩
  refine wT [(1, .b 1 0), (3, vi s1), (19, vb (decide (s1 < (p_d.Synced.length : Int))))] [(1, .box [.s (mU p_d.Synced), .s (mU p_d.Loose), vb p_d.Down])] Q3 J1 rfl ?_
  refine Ok.cond (d := 19) (b := decide (s1 < (p_d.Synced.length : Int))) rfl hB1 (fun hb hB1 => ?_) fun hb hB1 => ?_
  ·refine Ok.skip ?_
   refine Ok.seq ?_
   refine Ok.block ?_
   refine sg ?_
   obtain ⟨x1, hx1, hB1⟩ := bindS hB1
   refine ⟨_, rfl, _, idx_nat hx1, _, idx_row hx1, _, rfl, _, List.length_map _, fun _ => ?_⟩
   refine wT [(1, .b 1 0), (3, vi s1), (29, vb (decide ((x1.Data.length : Int) > 200)))] [(1, .box [.s (mU p_d.Synced), .s (mU p_d.Loose), vb p_d.Down])] Q3 J1 rfl ?_
   refine Ok.cond (d := 29) (b := decide ((x1.Data.length : Int) > 200)) rfl hB1 (fun hb hB1 => ?_) fun hb hB1 => ?_
   ·refine sg ?_
    refine wT [(2, vb true)] [] Q1 Q0 rfl ?_
    refine Ok.ret ?_
    have hB1 := out_ret hB1 hy1
    cases hB1
    exact Fz.v
   refine Ok.skip ?_
   refine rg ?_
   obtain ⟨hc1, hB1⟩ := chk_some hB1
   refine (Or.inl ⟨hc1, ?_⟩)
   exact ⟨_, sj hB1, Wk.tab Q2 J1 rfl⟩
  refine Ok.exit ?_
  have hB1 := out_ret hB1 hy1
  exact ⟨_, hB1, Wk.tab Q1 ⟨⟨_, rfl, .refl _⟩, Q0⟩ rfl⟩
 intro v2 h
 unfold law25_Great_J1 at h
 refine Ok.seqj (fun v3 => ⟨Cat.tab [(1, .b 1 0)], [(1, .box [.s (mU p_d.Synced), .s (mU p_d.Loose), vb p_d.Down])]⟩) (fun v3 => law25_Great_J2 p_d v3 = some r) ?_ ?_
 ·refine sg ?_
  refine wT [(1, .b 1 0), (4, vi (0))] [(1, .box [.s (mU p_d.Synced), .s (mU p_d.Loose), vb p_d.Down])] Q2 J1 rfl ?_
  refine Ok.block ?_
  refine Ok.loop (fun (s2 : Int) => ⟨Cat.tab [(1, .b 1 0), (4, vi s2)], [(1, .box [.s (mU p_d.Synced), .s (mU p_d.Loose), vb p_d.Down])]⟩) (law25_Great_B2 p_d) (s0 := 0) h (Wk.tab Q2 ⟨⟨_, rfl, .refl _⟩, Q0⟩ rfl) ?_
  intro s2 y2 hB2 hy2
  unfold law25_Great_B2 at hB2
  refine Ok.seq ?_
  refine sg ?_
  refine ⟨_, rfl, _, List.length_map _, fun _ => ?_⟩
  refine wT [(1, .b 1 0), (4, vi s2), (34, vb (decide (s2 < (p_d.Loose.length : Int))))] [(1, .box [.s (mU p_d.Synced), .s (mU p_d.Loose), vb p_d.Down])] Q3 J1 rfl ?_
  refine Ok.cond (d := 34) (b := decide (s2 < (p_d.Loose.length : Int))) rfl hB2 (fun hb hB2 => ?_) fun hb hB2 => ?_
  ·refine Ok.skip ?_
   refine Ok.seq ?_
   refine Ok.block ?_
   refine sg ?_
   obtain ⟨x2, hx2, hB2⟩ := bindS hB2
   refine ⟨_, rfl, _, idx_nat hx2, _, idx_row hx2, _, rfl, _, List.length_map _, fun _ => ?_⟩
   refine wT [(1, .b 1 0), (4, vi s2), (44, vb (decide ((x2.Data.length : Int) > 200)))] [(1, .box [.s (mU p_d.Synced), .s (mU p_d.Loose), vb p_d.Down])] Q3 J1 rfl ?_
   refine Ok.cond (d := 44) (b := decide ((x2.Data.length : Int) > 200)) rfl hB2 (fun hb hB2 => ?_) fun hb hB2 => ?_
   ·refine sg ?_
    refine wT [(2, vb true)] [] Q1 Q0 rfl ?_
    refine Ok.ret ?_
    have hB2 := out_ret hB2 hy2
    cases hB2
    exact Fz.v
   refine Ok.skip ?_
   refine rg ?_
   obtain ⟨hc2, hB2⟩ := chk_some hB2
   refine (Or.inl ⟨hc2, ?_⟩)
   exact ⟨_, sj hB2, Wk.tab Q2 J1 rfl⟩
  refine Ok.exit ?_
  have hB2 := out_ret hB2 hy2
  exact ⟨_, hB2, Wk.tab Q1 ⟨⟨_, rfl, .refl _⟩, Q0⟩ rfl⟩
 intro v3 h
 unfold law25_Great_J2 at h
 refine sg ?_
 obtain ⟨x3, hx3, h⟩ := bindS h
 refine ⟨_, rfl, ?_⟩
 refine CallOk.call (w_ref04_Right hx3) (LeL.refl _) ?_
 refine wT [(2, vb (!x3))] [] Q1 Q0 rfl ?_
 refine Ok.ret ?_
 cases h
 exact Fz.v
theorem w_law27_Great {p_disks} {p_l} {r} (h : law27_Great p_disks p_l = some r) : Pure Tryz.prog 10 [(.s (mB p_disks)), (.s (mC p_l))] (vb r) := by
 refine pure_of_ok (n := 39) (c := Tryz.f10.body.getD .skip) Tryz.tok Tryz.func10 (by kernel_rfl) rfl rfl (Nat.le_of_ble_eq_true rfl) ?_
 unfold law27_Great at h
 refine wT [(0, .s (mB p_disks)), (1, .s (mC p_l))] [] Q2 Q0 rfl ?_
 refine sg ?_
 refine wT [(0, .s (mB p_disks)), (1, .s (mC p_l))] [] Q2 Q0 rfl ?_
 refine Ok.seq ?_
 obtain ⟨v1, hv1, h⟩ := bindS h
 refine Ok.seqw ⟨Cat.tab [(0, .s (mB p_disks)), (1, .s (mC p_l)), (14, vb v1)], []⟩ ?_ ?_
 ·refine rg ?_
  refine ⟨_, List.length_map _, fun _ => ?_⟩
  obtain ⟨c1, hg1, hv1⟩ := bindS hv1
  refine Br.itf hg1 (fun hb hg1 => ?_) fun hb hg1 => ?_
  ·cases hg1
   cases hv1
   exact Wk.tab Q3 Q0 rfl
  refine ⟨_, List.length_map _, fun _ => ?_⟩
  cases hg1
  cases hv1
  exact Wk.tab Q3 Q0 rfl
 refine Ok.cond (d := 14) (b := v1) rfl h (fun hb h => ?_) fun hb h => ?_
 ·refine sg ?_
  refine wT [(4, vb true)] [] Q1 Q0 rfl ?_
  refine Ok.ret ?_
  cases h
  exact Fz.v
 refine Ok.skip ?_
 refine Ok.seqj (fun v2 => ⟨Cat.tab [(1, .s (mC p_l))], []⟩) (fun v2 => law27_Great_J1 p_l v2 = some r) ?_ ?_
 ·refine sg ?_
  refine wT [(0, .s (mB p_disks)), (1, .s (mC p_l)), (5, vi (0))] [] Q3 Q0 rfl ?_
  refine Ok.block ?_
  refine Ok.loop (fun (s1 : Int) => ⟨Cat.tab [(0, .s (mB p_disks)), (1, .s (mC p_l)), (5, vi s1)], []⟩) (law27_Great_B1 p_disks p_l) (s0 := 0) h (Wk.tab Q3 Q0 rfl) ?_
  intro s1 y1 hB1 hy1
  unfold law27_Great_B1 at hB1
  refine Ok.seq ?_
  refine sg ?_
  refine ⟨_, List.length_map _, fun _ => ?_⟩
  refine wT [(0, .s (mB p_disks)), (1, .s (mC p_l)), (5, vi s1), (18, vb (decide (s1 < (p_disks.length : Int))))] [] Q4 Q0 rfl ?_
  refine Ok.cond (d := 18) (b := decide (s1 < (p_disks.length : Int))) rfl hB1 (fun hb hB1 => ?_) fun hb hB1 => ?_
  ·refine Ok.skip ?_
   refine Ok.seq ?_
   refine Ok.block ?_
   refine sg ?_
   obtain ⟨x1, hx1, hB1⟩ := bindS hB1
   obtain ⟨x2, hx2, hB1⟩ := bindS hB1
   refine ⟨_, idx_nat hx1, _, idx_row hx1, _, rfl, ?_⟩
   refine CallOk.call (w_law25_Great hx2) (LeL.refl _) ?_
   refine wT [(0, .s (mB p_disks)), (1, .s (mC p_l)), (5, vi s1), (25, vb x2)] [] Q4 Q0 rfl ?_
   refine Ok.cond (d := 25) (b := x2) rfl hB1 (fun hb hB1 => ?_) fun hb hB1 => ?_
   ·refine sg ?_
    refine wT [(4, vb true)] [] Q1 Q0 rfl ?_
    refine Ok.ret ?_
    have hB1 := out_ret hB1 hy1
    cases hB1
    exact Fz.v
   refine Ok.skip ?_
   refine rg ?_
   obtain ⟨hc1, hB1⟩ := chk_some hB1
   refine (Or.inl ⟨hc1, ?_⟩)
   exact ⟨_, sj hB1, Wk.tab Q3 Q0 rfl⟩
  refine Ok.exit ?_
  have hB1 := out_ret hB1 hy1
  exact ⟨_, hB1, Wk.tab Q1 Q0 rfl⟩
 intro v2 h
 unfold law27_Great_J1 at h
 refine Ok.seqj (fun v3 => ⟨Cat.tab [], []⟩) (fun v3 => law27_Great_J2 v3 = some r) ?_ ?_
 ·refine sg ?_
  refine wT [(1, .s (mC p_l)), (6, vi (0))] [] Q2 Q0 rfl ?_
  refine Ok.block ?_
  refine Ok.loop (fun (s2 : Int) => ⟨Cat.tab [(1, .s (mC p_l)), (6, vi s2)], []⟩) (law27_Great_B2 p_l) (s0 := 0) h (Wk.tab Q2 Q0 rfl) ?_
  intro s2 y2 hB2 hy2
  unfold law27_Great_B2 at hB2
  refine Ok.seq ?_
  refine sg ?_
  refine ⟨_, List.length_map _, fun _ => ?_⟩
  refine wT [(1, .s (mC p_l)), (6, vi s2), (29, vb (decide (s2 < (p_l.length : Int))))] [] Q3 Q0 rfl ?_
  refine Ok.cond (d := 29) (b := decide (s2 < (p_l.length : Int))) rfl hB2 (fun hb hB2 => ?_) fun hb hB2 => ?_
  ·refine Ok.skip ?_
   refine Ok.seq ?_
   refine Ok.block ?_
   refine sg ?_
   obtain ⟨x3, hx3, hB2⟩ := bindS hB2
   refine ⟨_, idx_nat hx3, _, idx_row hx3, _, rfl, _, List.length_map _, fun _ => ?_⟩
   refine wT [(1, .s (mC p_l)), (6, vi s2), (38, vb (decide ((x3.Servers.length : Int) > 12)))] [] Q3 Q0 rfl ?_
   refine Ok.cond (d := 38) (b := decide ((x3.Servers.length : Int) > 12)) rfl hB2 (fun hb hB2 => ?_) fun hb hB2 => ?_
   ·refine sg ?_
    refine wT [(4, vb true)] [] Q1 Q0 rfl ?_
    refine Ok.ret ?_
    have hB2 := out_ret hB2 hy2
    cases hB2
    exact Fz.v
   refine Ok.skip ?_
   refine rg ?_
   obtain ⟨hc2, hB2⟩ := chk_some hB2
   refine (Or.inl ⟨hc2, ?_⟩)
   exact ⟨_, sj hB2, Wk.tab Q2 Q0 rfl⟩
  refine Ok.exit ?_
  have hB2 := out_ret hB2 hy2
  exact ⟨_, hB2, Wk.tab Q0 Q0 rfl⟩
 intro v3 h
 unfold law27_Great_J2 at h
 refine sg ?_
 refine wT [(4, vb false)] [] Q1 Q0 rfl ?_
 refine Ok.ret ?_
 cases h
 exact Fz.v
theorem w_ref27_has {p_l} {p_x} {r} (h : ref27_has p_l p_x = some r) : Pure Tryz.prog 41 [(.s (mI p_l)), (vi p_x)] (vb r) := by
 refine pure_of_ok (n := 18) (c := Tryz.f41.body.getD .skip) Tryz.tok Tryz.func41 (by kernel_rfl) rfl rfl (Nat.le_of_ble_eq_true rfl) ?_
 unfold ref27_has at h
 refine wT [(0, .s (mI p_l)), (1, vi p_x)] [] Q2 Q0 rfl ?_
 refine sg ?_
 refine wT [(0, .s (mI p_l)), (1, vi p_x)] [] Q2 Q0 rfl ?_
 refine Ok.seqj (fun v1 => ⟨Cat.tab [], []⟩) (fun v1 => ref27_has_J1 v1 = some r) ?_ ?_
 ·refine sg ?_
  refine wT [(0, .s (mI p_l)), (1, vi p_x), (5, vi (0))] [] Q3 Q0 rfl ?_
  refine Ok.block ?_
  refine Ok.loop (fun (s1 : Int) => ⟨Cat.tab [(0, .s (mI p_l)), (1, vi p_x), (5, vi s1)], []⟩) (ref27_has_B1 p_l p_x) (s0 := 0) h (Wk.tab Q3 Q0 rfl) ?_
  intro s1 y1 hB1 hy1
  unfold ref27_has_B1 at hB1
  refine Ok.seq ?_
  refine sg ?_
  refine ⟨_, List.length_map _, fun _ => ?_⟩
  refine wT [(0, .s (mI p_l)), (1, vi p_x), (5, vi s1), (9, vb (decide (s1 < (p_l.length : Int))))] [] Q4 Q0 rfl ?_
  refine Ok.cond (d := 9) (b := decide (s1 < (p_l.length : Int))) rfl hB1 (fun hb hB1 => ?_) fun hb hB1 => ?_
  ·refine Ok.skip ?_
   refine Ok.seq ?_
   refine Ok.block ?_
   refine sg ?_
   obtain ⟨x1, hx1, hB1⟩ := bindS hB1
   refine ⟨_, idx_nat hx1, _, idx_row hx1, _, rfl, ?_⟩
   refine wT [(0, .s (mI p_l)), (1, vi p_x), (5, vi s1), (17, vb (x1 == p_x))] [] Q4 Q0 rfl ?_
   refine Ok.cond (d := 17) (b := x1 == p_x) rfl hB1 (fun hb hB1 => ?_) fun hb hB1 => ?_
   ·refine sg ?_
    refine wT [(4, vb true)] [] Q1 Q0 rfl ?_
    refine Ok.ret ?_
    have hB1 := out_ret hB1 hy1
    cases hB1
    exact Fz.v
   refine Ok.skip ?_
   refine rg ?_
   obtain ⟨hc1, hB1⟩ := chk_some hB1
   refine (Or.inl ⟨hc1, ?_⟩)
   exact ⟨_, sj hB1, Wk.tab Q3 Q0 rfl⟩
  refine Ok.exit ?_
  have hB1 := out_ret hB1 hy1
  exact ⟨_, hB1, Wk.tab Q0 Q0 rfl⟩
 intro v1 h
 unfold ref27_has_J1 at h
 refine sg ?_
 refine wT [(4, vb false)] [] Q1 Q0 rfl ?_
 refine Ok.ret ?_
 cases h
 exact Fz.v
theorem w_ref27_Right {p_l} {r} (h : ref27_Right p_l = some r) : Pure Tryz.prog 12 [(.s (mC p_l))] (vb r) := by
 refine pure_of_ok (n := 80) (c := Tryz.f12.body.getD .skip) Tryz.tok Tryz.func12 (by kernel_rfl) rfl rfl (Nat.le_of_ble_eq_true rfl) ?_
 unfold ref27_Right at h
 refine wT [(0, .s (mC p_l))] [] Q1 Q0 rfl ?_
 refine sg ?_
 refine wT [(0, .s (mC p_l))] [] Q1 Q0 rfl ?_
 refine Ok.seqj (fun v1 => ⟨Cat.tab [], []⟩) (fun v1 => ref27_Right_J1 v1 = some r) ?_ ?_
 ·refine sg ?_
  refine wT [(0, .s (mC p_l)), (3, vi (0))] [] Q2 Q0 rfl ?_
  refine Ok.block ?_
  refine Ok.loop (fun (s1 : Int) => ⟨Cat.tab [(0, .s (mC p_l)), (3, vi s1)], []⟩) (ref27_Right_B1 p_l) (s0 := 0) h (Wk.tab Q2 Q0 rfl) ?_
  intro s1 y1 hB1 hy1
  unfold ref27_Right_B1 at hB1
  refine Ok.seq ?_
  refine sg ?_
  refine ⟨_, List.length_map _, fun _ => ?_⟩
  refine wT [(0, .s (mC p_l)), (3, vi s1), (9, vb (decide (s1 < (p_l.length : Int))))] [] Q3 Q0 rfl ?_
  refine Ok.cond (d := 9) (b := decide (s1 < (p_l.length : Int))) rfl hB1 (fun hb hB1 => ?_) fun hb hB1 => ?_
  ·refine Ok.skip ?_
   refine Ok.seqj (fun v2 => ⟨Cat.tab [(0, .s (mC p_l)), (3, vi s1)], []⟩) (fun v2 => ref27_Right_J2 s1 v2 = some y1) ?_ ?_
   ·refine Ok.block ?_
    refine sg ?_
    obtain ⟨x1, hx1, hB1⟩ := bindS hB1
    refine ⟨_, idx_nat hx1, _, idx_row hx1, _, rfl, _, rfl, ?_⟩
    refine wT [(0, .s (mC p_l)), (3, vi s1), (4, .b 4 0)] [(4, .box [vi x1.Id, vi x1.Ver, .s (mI x1.Servers)])] Q3 J1 rfl ?_
    refine Ok.seq ?_
    obtain ⟨v3, hv3, hB1⟩ := bindS hB1
    refine Ok.seqw ⟨Cat.tab [(0, .s (mC p_l)), (3, vi s1), (4, .b 4 0), (54, vb v3)], [(4, .box [vi x1.Id, vi x1.Ver, .s (mI x1.Servers)])]⟩ ?_ ?_
    ·refine Ok.draw (m := 39) (MD := ⟨[]⟩) (CH := ⟨[]⟩) Tryz.tok Tryz.mixed (by kernel_rfl) ?_
     refine ⟨_, rfl, _, ⟨_, rfl, rfl⟩, _, rfl, _, rfl, ?_⟩
     obtain ⟨c1, hg1, hv3⟩ := bindS hv3
     refine Br.itf hg1 (fun hb hg1 => ?_) fun hb hg1 => ?_
     ·cases hg1
      refine ⟨_, rfl, ?_⟩
      refine ⟨_, rfl, ?_⟩
      obtain ⟨c2, hg2, hv3⟩ := bindS hv3
      replace hg2 := iteT hg2
      cases hg2
      refine ⟨_, rfl, ?_⟩
      refine ⟨_, rfl, ?_⟩
      obtain ⟨c3, hg3, hv3⟩ := bindS hv3
      replace hg3 := iteT hg3
      cases hg3
      refine ⟨_, rfl, ?_⟩
      refine ⟨_, rfl, ?_⟩
      obtain ⟨c4, hg4, hv3⟩ := bindS hv3
      replace hg4 := iteT hg4
      cases hg4
      refine ⟨_, rfl, ?_⟩
      refine ⟨_, rfl, ?_⟩
      obtain ⟨c6, hg5, hv3⟩ := bindS hv3
      replace hg5 := iteT hg5
      cases hg5
      refine ⟨_, rfl, ?_⟩
      refine ⟨Q0, ?_⟩
      cases hv3
      exact Wk.tab Q4 J1 rfl
     refine ⟨_, rfl, _, ⟨_, rfl, rfl⟩, _, rfl, ?_⟩
     cases hg1
     refine ⟨_, rfl, ?_⟩
     refine ⟨_, rfl, ?_⟩
     obtain ⟨c2, hg6, hv3⟩ := bindS hv3
     refine Br.itf hg6 (fun hb hg6 => ?_) fun hb hg6 => ?_
     ·cases hg6
      refine ⟨_, rfl, ?_⟩
      refine ⟨_, rfl, ?_⟩
      obtain ⟨c3, hg7, hv3⟩ := bindS hv3
      replace hg7 := iteT hg7
      cases hg7
      refine ⟨_, rfl, ?_⟩
      refine ⟨_, rfl, ?_⟩
      obtain ⟨c4, hg8, hv3⟩ := bindS hv3
      replace hg8 := iteT hg8
      cases hg8
      refine ⟨_, rfl, ?_⟩
      refine ⟨_, rfl, ?_⟩
      obtain ⟨c6, hg9, hv3⟩ := bindS hv3
      replace hg9 := iteT hg9
      cases hg9
      refine ⟨_, rfl, ?_⟩
      refine ⟨Q0, ?_⟩
      cases hv3
      exact Wk.tab Q4 J1 rfl
     refine ⟨_, rfl, _, ⟨_, rfl, rfl⟩, _, rfl, ?_⟩
     cases hg6
     refine ⟨_, rfl, ?_⟩
     refine ⟨_, rfl, ?_⟩
     obtain ⟨c3, hg10, hv3⟩ := bindS hv3
     refine Br.itf hg10 (fun hb hg10 => ?_) fun hb hg10 => ?_
     ·cases hg10
      refine ⟨_, rfl, ?_⟩
      refine ⟨_, rfl, ?_⟩
      obtain ⟨c4, hg11, hv3⟩ := bindS hv3
      replace hg11 := iteT hg11
      cases hg11
      refine ⟨_, rfl, ?_⟩
      refine ⟨_, rfl, ?_⟩
      obtain ⟨c6, hg12, hv3⟩ := bindS hv3
      replace hg12 := iteT hg12
      cases hg12
      refine ⟨_, rfl, ?_⟩
      refine ⟨Q0, ?_⟩
      cases hv3
      exact Wk.tab Q4 J1 rfl
     refine ⟨_, rfl, _, ⟨_, rfl, rfl⟩, _, rfl, ?_⟩
     cases hg10
     refine ⟨_, rfl, ?_⟩
     refine ⟨_, rfl, ?_⟩
     obtain ⟨c4, hg13, hv3⟩ := bindS hv3
     refine Br.itf hg13 (fun hb hg13 => ?_) fun hb hg13 => ?_
     ·cases hg13
      refine ⟨_, rfl, ?_⟩
      refine ⟨_, rfl, ?_⟩
      obtain ⟨c6, hg14, hv3⟩ := bindS hv3
      replace hg14 := iteT hg14
      cases hg14
      refine ⟨_, rfl, ?_⟩
      refine ⟨Q0, ?_⟩
      cases hv3
      exact Wk.tab Q4 J1 rfl
     refine ⟨_, rfl, _, ⟨_, rfl, rfl⟩, _, ⟨_, List.length_map _, fun _ => rfl⟩, _, rfl, ?_⟩
     cases hg13
     refine ⟨_, rfl, ?_⟩
     refine ⟨_, rfl, ?_⟩
     obtain ⟨c6, hg15, hv3⟩ := bindS hv3
     refine Br.itf hg15 (fun hb hg15 => ?_) fun hb hg15 => ?_
     ·cases hg15
      refine ⟨_, rfl, ?_⟩
      refine ⟨Q0, ?_⟩
      cases hv3
      exact Wk.tab Q4 J1 rfl
     refine ⟨_, rfl, _, rfl, _, rfl, ?_⟩
     obtain ⟨c5, hg16, hg15⟩ := bindS hg15
     refine Br.ite hg16 (fun hb hg16 => ?_) fun hb hg16 => ?_
     ·obtain ⟨hc1, hg16⟩ := chk_some hg16
      obtain ⟨x2, hx2, hg16⟩ := bindS hg16
      refine ⟨_, rfl, _, rfl, _, Or.inl ⟨hc1, rfl⟩, _, ⟨_, idx_nat hx2, _, idx_row hx2, rfl⟩, _, rfl, _, ⟨_, rfl, rfl⟩, _, rfl, _, ⟨_, rfl, rfl⟩, _, rfl, ?_⟩
      cases hg16
      refine ⟨_, rfl, ?_⟩
      cases hg15
      refine ⟨_, rfl, ?_⟩
      refine ⟨Q0, ?_⟩
      cases hv3
      exact Wk.tab Q4 J1 rfl
     cases hg16
     refine ⟨_, rfl, ?_⟩
     cases hg15
     refine ⟨_, rfl, ?_⟩
     refine ⟨Q0, ?_⟩
     cases hv3
     exact Wk.tab Q4 J1 rfl
    refine Ok.cond (d := 54) (b := v3) rfl hB1 (fun hb hB1 => ?_) fun hb hB1 => ?_
    ·refine sg ?_
     refine wT [(2, vb false)] [] Q1 Q0 rfl ?_
     refine Ok.ret ?_
     have hB1 := out_ret hB1 hy1
     cases hB1
     exact Fz.v
    refine Ok.skip ?_
    refine sg ?_
    refine wT [(0, .s (mC p_l)), (3, vi s1), (4, .b 4 0), (5, vi (0))] [(4, .box [vi x1.Id, vi x1.Ver, .s (mI x1.Servers)])] Q4 J1 rfl ?_
    refine Ok.block ?_
    refine Ok.loop (fun (s2 : Int) => ⟨Cat.tab [(0, .s (mC p_l)), (3, vi s1), (4, .b 4 0), (5, vi s2)], [(4, .box [vi x1.Id, vi x1.Ver, .s (mI x1.Servers)])]⟩) (ref27_Right_B2 x1 s1) (s0 := 0) hB1 (Wk.tab Q4 ⟨⟨_, rfl, .refl _⟩, Q0⟩ rfl) ?_
    intro s2 y2 hB2 hy2
    unfold ref27_Right_B2 at hB2
    refine Ok.seq ?_
    refine sg ?_
    refine ⟨_, rfl, _, List.length_map _, fun _ => ?_⟩
    refine wT [(0, .s (mC p_l)), (3, vi s1), (4, .b 4 0), (5, vi s2), (59, vb (decide (s2 < (x1.Servers.length : Int))))] [(4, .box [vi x1.Id, vi x1.Ver, .s (mI x1.Servers)])] Q5 J1 rfl ?_
    refine Ok.cond (d := 59) (b := decide (s2 < (x1.Servers.length : Int))) rfl hB2 (fun hb hB2 => ?_) fun hb hB2 => ?_
    ·refine Ok.skip ?_
     refine Ok.seq ?_
     refine Ok.block ?_
     obtain ⟨v4, hv4, hB2⟩ := bindS hB2
     refine Ok.seqw ⟨Cat.tab [(0, .s (mC p_l)), (3, vi s1), (4, .b 4 0), (5, vi s2), (79, vb v4)], [(4, .box [vi x1.Id, vi x1.Ver, .s (mI x1.Servers)])]⟩ ?_ ?_
     ·refine Ok.draw (m := 18) (MD := ⟨[]⟩) (CH := ⟨[]⟩) Tryz.tok Tryz.mixed (by kernel_rfl) ?_
      obtain ⟨x3, hx3, hv4⟩ := bindS hv4
      refine ⟨_, rfl, _, ⟨_, rfl, rfl⟩, _, rfl, _, ⟨_, idx_nat hx3, _, idx_row hx3, rfl⟩, _, ⟨_, rfl, rfl⟩, _, rfl, _, rfl, ?_⟩
      obtain ⟨c7, hg17, hv4⟩ := bindS hv4
      refine Br.itf hg17 (fun hb hg17 => ?_) fun hb hg17 => ?_
      ·cases hg17
       refine ⟨_, rfl, ?_⟩
       refine ⟨Q0, ?_⟩
       cases hv4
       exact Wk.tab Q5 J1 rfl
      obtain ⟨hc2, hg17⟩ := chk_some hg17
      obtain ⟨x4, hx4, hg17⟩ := bindS hg17
      obtain ⟨x5, hx5, hg17⟩ := bindS hg17
      refine ⟨_, rfl, _, ⟨_, rfl, rfl⟩, _, rfl, _, ⟨_, sl_nat hc2.1, Nat.zero_le _, sl_len hc2, rowsK (f := Go.Cat.encI) (K := 1) (fun _ => rfl) x1.Servers, _, sl_take _ _ _, rfl⟩, _, rfl, _, ⟨_, rfl, rfl⟩, _, rfl, _, ⟨_, idx_nat hx4, _, idx_row hx4, rfl⟩, _, ⟨_, rfl, rfl⟩, _, ⟨_, .of_pure (w_ref27_has hx5) (LeL.refl _), rfl⟩, ?_⟩
      cases hg17
      refine ⟨_, rfl, ?_⟩
      refine ⟨Q0, ?_⟩
      cases hv4
      exact Wk.tab Q5 J1 rfl
     refine Ok.cond (d := 79) (b := v4) rfl hB2 (fun hb hB2 => ?_) fun hb hB2 => ?_
     ·refine sg ?_
      refine wT [(2, vb false)] [] Q1 Q0 rfl ?_
      refine Ok.ret ?_
      have hB2 := out_ret hB2 hy2
      have hB2 := out_ret hB2 hy1
      cases hB2
      exact Fz.v
     refine Ok.skip ?_
     refine rg ?_
     obtain ⟨hc3, hB2⟩ := chk_some hB2
     refine (Or.inl ⟨hc3, ?_⟩)
     exact ⟨_, sj hB2, Wk.tab Q4 J1 rfl⟩
    refine Ok.exit ?_
    have hB2 := out_ret hB2 hy2
    exact ⟨_, hB2, Wk.tab Q2 Q0 rfl⟩
   intro v2 hB1
   unfold ref27_Right_J2 at hB1
   refine rg ?_
   obtain ⟨hc4, hB1⟩ := chk_some hB1
   refine (Or.inl ⟨hc4, ?_⟩)
   exact ⟨_, sj hB1, Wk.tab Q2 Q0 rfl⟩
  refine Ok.exit ?_
  have hB1 := out_ret hB1 hy1
  exact ⟨_, hB1, Wk.tab Q0 Q0 rfl⟩
 intro v1 h
 unfold ref27_Right_J1 at h
 refine sg ?_
 refine wT [(2, vb true)] [] Q1 Q0 rfl ?_
 refine Ok.ret ?_
 cases h
 exact Fz.v
theorem w_law27_ScrubClean [Off] {p_disks} {p_l} {r} (h : law27_ScrubClean p_disks p_l = some r) : Pure Tryz.prog 7 [(.s (mB p_disks)), (.s (mC p_l))] (vb r) := by
 refine pure_of_ok (n := 90) (c := Tryz.f7.body.getD .skip) Tryz.tok Tryz.func7 (by kernel_rfl) rfl rfl (Nat.le_of_ble_eq_true rfl) ?_
 unfold law27_ScrubClean at h
 refine wT [(0, .s (mB p_disks)), (1, .s (mC p_l))] [] Q2 Q0 rfl ?_
 refine sg ?_
 refine wT [(0, .s (mB p_disks)), (1, .s (mC p_l))] [] Q2 Q0 rfl ?_
 refine sg ?_
 obtain ⟨x1, hx1, h⟩ := bindS h
 refine CallOk.call (w_law27_head hx1) (LeL.refl _) ?_
 refine wT [(0, .s (mB p_disks)), (1, .s (mC p_l)), (5, vb x1)] [] Q3 Q0 rfl ?_
 refine Ok.seq ?_
 obtain ⟨v1, hv1, h⟩ := bindS h
 refine Ok.seqw ⟨Cat.tab [(0, .s (mB p_disks)), (1, .s (mC p_l)), (5, vb x1), (20, vb v1)], []⟩ ?_ ?_
 ·refine rg ?_
  obtain ⟨x2, hx2, hv1⟩ := bindS hv1
  refine CallOk.call (w_law27_Great hx2) (LeL.refl _) ?_
  obtain ⟨c1, hg1, hv1⟩ := bindS hv1
  refine Br.itf hg1 (fun hb hg1 => ?_) fun hb hg1 => ?_
  ·cases hg1
   cases hv1
   exact Wk.tab Q4 Q0 rfl
  obtain ⟨x3, hx3, hg1⟩ := bindS hg1
  refine CallOk.call (w_ref27_Right hx3) (LeL.refl _) ?_
  cases hg1
  cases hv1
  exact Wk.tab Q4 Q0 rfl
 refine Ok.cond (d := 20) (b := v1) rfl h (fun hb h => ?_) fun hb h => ?_
 ·refine sg ?_
  refine wT [(4, vb x1)] [] Q1 Q0 rfl ?_
  refine Ok.ret ?_
  cases h
  exact Fz.v
 refine Ok.skip ?_
 refine sg ?_
 obtain ⟨x4, hx4, h⟩ := bindS h
 refine CallOk.call (w_scrub_Strays hx4) (LeL.refl _) ?_
 refine wT [(0, .s (mB p_disks)), (1, .s (mC p_l)), (5, vb x1), (6, .s (mD x4))] [] Q4 Q0 rfl ?_
 refine Ok.seq ?_
 refine sg ?_
 refine ⟨_, List.length_map _, fun _ => ?_⟩
 refine wT [(0, .s (mB p_disks)), (1, .s (mC p_l)), (5, vb x1), (6, .s (mD x4)), (27, vb (decide ((x4.length : Int) > 1200)))] [] Q5 Q0 rfl ?_
 refine Ok.cond (d := 27) (b := decide ((x4.length : Int) > 1200)) rfl h (fun hb h => ?_) fun hb h => ?_
 ·refine sg ?_
  refine wT [(4, vb false)] [] Q1 Q0 rfl ?_
  refine Ok.ret ?_
  cases h
  exact Fz.v
 refine Ok.skip ?_
 refine sg ?_
 refine wT [(0, .s (mB p_disks)), (1, .s (mC p_l)), (5, vb x1), (6, .s (mD x4)), (7, .s (mB p_disks))] [] Q5 Q0 rfl ?_
 refine Ok.seqj (fun v2 => ⟨Cat.tab [(0, .s (mB p_disks)), (1, .s (mC p_l)), (5, vb x1), (7, .s (mB v2))], []⟩) (fun v2 => law27_ScrubClean_J1 p_l p_disks x1 v2 = some r) ?_ ?_
 ·refine sg ?_
  refine wT [(0, .s (mB p_disks)), (1, .s (mC p_l)), (5, vb x1), (6, .s (mD x4)), (7, .s (mB p_disks)), (8, vi (0))] [] Q6 Q0 rfl ?_
  refine Ok.block ?_
  refine Ok.loop (fun (s1 : (List api_Disk) × Int) => ⟨Cat.tab [(0, .s (mB p_disks)), (1, .s (mC p_l)), (5, vb x1), (6, .s (mD x4)), (7, .s (mB s1.1)), (8, vi s1.2)], []⟩) (law27_ScrubClean_B1 x4 p_disks p_l x1) (s0 := (p_disks, 0)) h (Wk.tab Q6 Q0 rfl) ?_
  intro s1 y1 hB1 hy1
  unfold law27_ScrubClean_B1 at hB1
  refine Ok.seq ?_
  refine sg ?_
  refine ⟨_, List.length_map _, fun _ => ?_⟩
  refine wT [(0, .s (mB p_disks)), (1, .s (mC p_l)), (5, vb x1), (6, .s (mD x4)), (7, .s (mB s1.1)), (8, vi s1.2), (32, vb (decide (s1.2 < (x4.length : Int))))] [] Q7 Q0 rfl ?_
  refine Ok.cond (d := 32) (b := decide (s1.2 < (x4.length : Int))) rfl hB1 (fun hb hB1 => ?_) fun hb hB1 => ?_
  ·refine Ok.skip ?_
   refine Ok.seq ?_
   refine Ok.block ?_
   refine sg ?_
   obtain ⟨x5, hx5, hB1⟩ := bindS hB1
   obtain ⟨x6, hx6, hB1⟩ := bindS hB1
   refine ⟨_, idx_nat hx5, _, idx_row hx5, _, rfl, ?_⟩
   refine CallOk.call (w_scrub_Clean hx6) (LeL.refl _) ?_
   refine wT [(0, .s (mB p_disks)), (1, .s (mC p_l)), (5, vb x1), (6, .s (mD x4)), (8, vi s1.2), (9, .s (mB x6.1)), (10, vi x6.2)] [] Q7 Q0 rfl ?_
   refine Ok.seq ?_
   obtain ⟨v3, hv3, hB1⟩ := bindS hB1
   refine Ok.seqw ⟨Cat.tab [(0, .s (mB p_disks)), (1, .s (mC p_l)), (5, vb x1), (6, .s (mD x4)), (8, vi s1.2), (9, .s (mB x6.1)), (60, vb v3)], []⟩ ?_ ?_
   ·refine rg ?_
    obtain ⟨c2, hg2, hv3⟩ := bindS hv3
    refine Br.itf hg2 (fun hb hg2 => ?_) fun hb hg2 => ?_
    ·cases hg2
     obtain ⟨c3, hg3, hv3⟩ := bindS hv3
     replace hg3 := iteT hg3
     cases hg3
     cases hv3
     exact Wk.tab Q7 Q0 rfl
    refine ⟨_, List.length_map _, fun _ => ⟨_, List.length_map _, fun _ => ?_⟩⟩
    cases hg2
    obtain ⟨c3, hg4, hv3⟩ := bindS hv3
    refine Br.itf hg4 (fun hb hg4 => ?_) fun hb hg4 => ?_
    ·cases hg4
     cases hv3
     exact Wk.tab Q7 Q0 rfl
    obtain ⟨x7, hx7, hg4⟩ := bindS hg4
    refine ⟨_, idx_nat hx7, _, idx_row hx7, _, rfl, ?_⟩
    cases hg4
    cases hv3
    exact Wk.tab Q7 Q0 rfl
   refine Ok.cond (d := 60) (b := v3) rfl hB1 (fun hb hB1 => ?_) fun hb hB1 => ?_
   ·refine sg ?_
    refine wT [(4, vb false)] [] Q1 Q0 rfl ?_
    refine Ok.ret ?_
    have hB1 := out_ret hB1 hy1
    cases hB1
    exact Fz.v
   refine Ok.skip ?_
   refine rg ?_
   refine wT [(0, .s (mB p_disks)), (1, .s (mC p_l)), (5, vb x1), (6, .s (mD x4)), (7, .s (mB x6.1)), (8, vi s1.2)] [] Q6 Q0 rfl ?_
   refine rg ?_
   obtain ⟨hc1, hB1⟩ := chk_some hB1
   refine (Or.inl ⟨hc1, ?_⟩)
   exact ⟨_, sj hB1, Wk.tab Q6 Q0 rfl⟩
  refine Ok.exit ?_
  have hB1 := out_ret hB1 hy1
  exact ⟨_, hB1, Wk.tab Q4 Q0 rfl⟩
 intro v2 h
 unfold law27_ScrubClean_J1 at h
 refine Ok.seqj (fun v4 => ⟨Cat.tab [(1, .s (mC p_l)), (5, vb x1), (7, .s (mB v2))], []⟩) (fun v4 => law27_ScrubClean_J2 x1 v2 p_l v4 = some r) ?_ ?_
 ·refine sg ?_
  refine wT [(0, .s (mB p_disks)), (1, .s (mC p_l)), (5, vb x1), (7, .s (mB v2)), (11, vi (0))] [] Q5 Q0 rfl ?_
  refine Ok.block ?_
  refine Ok.loop (fun (s2 : Int) => ⟨Cat.tab [(0, .s (mB p_disks)), (1, .s (mC p_l)), (5, vb x1), (7, .s (mB v2)), (11, vi s2)], []⟩) (law27_ScrubClean_B2 p_l v2 p_disks x1) (s0 := 0) h (Wk.tab Q5 Q0 rfl) ?_
  intro s2 y2 hB2 hy2
  unfold law27_ScrubClean_B2 at hB2
  refine Ok.seq ?_
  refine sg ?_
  refine ⟨_, List.length_map _, fun _ => ?_⟩
  refine wT [(0, .s (mB p_disks)), (1, .s (mC p_l)), (5, vb x1), (7, .s (mB v2)), (11, vi s2), (65, vb (decide (s2 < (p_l.length : Int))))] [] Q6 Q0 rfl ?_
  refine Ok.cond (d := 65) (b := decide (s2 < (p_l.length : Int))) rfl hB2 (fun hb hB2 => ?_) fun hb hB2 => ?_
  ·refine Ok.skip ?_
   refine Ok.seq ?_
   refine Ok.block ?_
   refine Ok.seq ?_
   refine Ok.draw (m := 14) (MD := ⟨[]⟩) (CH := ⟨[]⟩) Tryz.tok Tryz.mixed (by kernel_rfl) ?_
   obtain ⟨x8, hx8, hB2⟩ := bindS hB2
   obtain ⟨x9, hx9, hB2⟩ := bindS hB2
   obtain ⟨x10, hx10, hB2⟩ := bindS hB2
   obtain ⟨x11, hx11, hB2⟩ := bindS hB2
   obtain ⟨x12, hx12, hB2⟩ := bindS hB2
   refine ⟨_, rfl, _, rfl, _, rfl, _, ⟨_, idx_nat hx8, _, idx_row hx8, rfl⟩, _, ⟨_, rfl, rfl⟩, _, ⟨_, .of_pure (w_scrub_Look hx9) (LeL.refl _), rfl⟩, _, rfl, _, rfl, _, rfl, _, ⟨_, idx_nat hx10, _, idx_row hx10, rfl⟩, _, ⟨_, rfl, rfl⟩, _, ⟨_, .of_pure (w_scrub_Look hx11) (LeL.refl _), rfl⟩, _, ⟨_, .of_pure (w_ref27_SameFinds hx12) (LeL.refl _), rfl⟩, _, rfl, Q0, ?_⟩
   refine wT [(0, .s (mB p_disks)), (1, .s (mC p_l)), (5, vb x1), (7, .s (mB v2)), (11, vi s2), (81, vb (!x12))] [] Q6 Q0 rfl ?_
   refine Ok.cond (d := 81) (b := !x12) rfl hB2 (fun hb hB2 => ?_) fun hb hB2 => ?_
   ·refine sg ?_
    refine wT [(4, vb false)] [] Q1 Q0 rfl ?_
    refine Ok.ret ?_
    have hB2 := out_ret hB2 hy2
    cases hB2
    exact Fz.v
   refine Ok.skip ?_
   refine rg ?_
   obtain ⟨hc2, hB2⟩ := chk_some hB2
   refine (Or.inl ⟨hc2, ?_⟩)
   exact ⟨_, sj hB2, Wk.tab Q5 Q0 rfl⟩
  refine Ok.exit ?_
  have hB2 := out_ret hB2 hy2
  exact ⟨_, hB2, Wk.tab Q3 Q0 rfl⟩
 intro v4 h
 unfold law27_ScrubClean_J2 at h
 obtain ⟨v5, hv5, h⟩ := bindS h
 refine Ok.seqw ⟨Cat.tab [(4, vb v5)], []⟩ ?_ ?_
 ·refine rg ?_
  obtain ⟨c4, hg5, hv5⟩ := bindS hv5
  refine Br.ite hg5 (fun hb hg5 => ?_) fun hb hg5 => ?_
  ·obtain ⟨x13, hx13, hg5⟩ := bindS hg5
   refine CallOk.call (w_scrub_Strays hx13) (LeL.refl _) ?_
   refine ⟨_, List.length_map _, fun _ => ?_⟩
   cases hg5
   cases hv5
   exact Wk.tab Q1 Q0 rfl
  cases hg5
  cases hv5
  exact Wk.tab Q1 Q0 rfl
 refine Ok.ret ?_
 cases h
 exact Fz.v
end Go.Proofs
