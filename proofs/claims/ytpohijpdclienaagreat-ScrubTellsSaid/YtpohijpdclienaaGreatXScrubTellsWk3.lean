/- The walks of this seat beside the plain programs, part 3. No condition. -/
import Derived.Test.YtpohijpdclienaaGreatXScrubTellsEn
import Derived.Test.YtpohijpdclienaaGreatXScrubTellsWk0
import Derived.Test.YtpohijpdclienaaGreatXScrubTellsWk1
import Derived.Test.YtpohijpdclienaaGreatXScrubTellsWk2
namespace Go.Proofs
set_option linter.all false
open Go Go.Cat
variable [M : Mono]
set_option maxRecDepth 100000
theorem w_law25N1 {p_d} {r} (h : law25_Great p_d = some r) : Pure Tryz.prog 37 [(.a [(.s (mA p_d.Synced)), (.s (mA p_d.Loose)), (vb p_d.Down)])] (vb r) := by
 refine pure_of_ok (n := 48) (c := Tryz.f37.body.getD .skip) Tryz.tok Tryz.func37 (by kernel_rfl) rfl rfl (Nat.le_of_ble_eq_true rfl) ?_
 unfold law25_Great at h
 refine wT [(0, .a [.s (mA p_d.Synced), .s (mA p_d.Loose), vb p_d.Down])] [] Q1 Q0 rfl ?_
 refine sg ?_
 refine wT [(1, .b 1 0)] [(1, .box [.s (mA p_d.Synced), .s (mA p_d.Loose), vb p_d.Down])] Q1 J1 rfl ?_
 refine Ok.seq ?_
 obtain ⟨v1, hv1, h⟩ := bindS h
 refine Ok.seqw ⟨Cat.tab [(1, .b 1 0), (14, vb v1)], [(1, .box [.s (mA p_d.Synced), .s (mA p_d.Loose), vb p_d.Down])]⟩ ?_ ?_
 ·refine rg ?_
  refine ⟨_, rfl, _, List.length_map _, fun _ => ?_⟩
  obtain ⟨c1, hg1, hv1⟩ := bindS hv1
  refine Br.itf hg1 (fun hb hg1 => ?_) fun hb hg1 => ?_
  ·cases hg1
   cases hv1
   exact Wk.tab Q2 J1 rfl
  refine ⟨_, rfl, _, List.length_map _, fun _ => ?_⟩
  cases hg1
  cases hv1
  exact Wk.tab Q2 J1 rfl
 refine Ok.cond (d := 14) (b := v1) rfl h (fun hb h => ?_) fun hb h => ?_
 ·refine sg ?_
  refine wT [(2, vb true)] [] Q1 Q0 rfl ?_
  refine Ok.ret ?_
  cases h
  exact Fz.v
 refine Ok.skip ?_
 refine Ok.seqj (fun v2 => ⟨Cat.tab [(1, .b 1 0)], [(1, .box [.s (mA p_d.Synced), .s (mA p_d.Loose), vb p_d.Down])]⟩) (fun v2 => law25N3 p_d v2 = some r) ?_ ?_
 ·refine sg ?_
  refine wT [(1, .b 1 0), (3, vi (0))] [(1, .box [.s (mA p_d.Synced), .s (mA p_d.Loose), vb p_d.Down])] Q2 J1 rfl ?_
  refine Ok.block ?_
  refine Ok.loop (fun (s1 : Int) => ⟨Cat.tab [(1, .b 1 0), (3, vi s1)], [(1, .box [.s (mA p_d.Synced), .s (mA p_d.Loose), vb p_d.Down])]⟩) (law25N1 p_d) (s0 := 0) h (Wk.tab Q2 ⟨⟨_, rfl, .refl _⟩, Q0⟩ rfl) ?_
  intro s1 y1 hB1 hy1
  unfold law25N1 at hB1
  refine Ok.seq ?_
  refine sg ?_
  refine ⟨_, rfl, _, List.length_map _, fun _ => ?_⟩
  refine wT [(1, .b 1 0), (3, vi s1), (19, vb (decide (s1 < (p_d.Synced.length : Int))))] [(1, .box [.s (mA p_d.Synced), .s (mA p_d.Loose), vb p_d.Down])] Q3 J1 rfl ?_
  refine Ok.cond (d := 19) (b := decide (s1 < (p_d.Synced.length : Int))) rfl hB1 (fun hb hB1 => ?_) fun hb hB1 => ?_
  ·refine Ok.skip ?_
   refine Ok.seq ?_
   refine Ok.block ?_
   refine sg ?_
   obtain ⟨x1, hx1, hB1⟩ := bindS hB1
   refine ⟨_, rfl, _, idx_nat hx1, _, idx_row hx1, _, rfl, _, List.length_map _, fun _ => ?_⟩
   refine wT [(1, .b 1 0), (3, vi s1), (29, vb (decide ((x1.Data.length : Int) > 200)))] [(1, .box [.s (mA p_d.Synced), .s (mA p_d.Loose), vb p_d.Down])] Q3 J1 rfl ?_
   refine Ok.cond (d := 29) (b := decide ((x1.Data.length : Int) > 200)) rfl hB1 (fun hb hB1 => ?_) fun hb hB1 => ?_
   ·refine sg ?_
    refine wT [(2, vb true)] [] Q1 Q0 rfl ?_
    refine Ok.ret ?_
    have hB1 := out_ret hB1 hy1
    cases hB1
    exact Fz.v
   refine Ok.skip ?_
   refine rg ?_
   obtain ⟨hc1, hB1⟩ := chk_some hB1
   refine (Or.inl ⟨hc1, ?_⟩)
   exact ⟨_, sj hB1, Wk.tab Q2 J1 rfl⟩
  refine Ok.exit ?_
  have hB1 := out_ret hB1 hy1
  exact ⟨_, hB1, Wk.tab Q1 ⟨⟨_, rfl, .refl _⟩, Q0⟩ rfl⟩
 intro v2 h
 unfold law25N3 at h
 refine Ok.seqj (fun v3 => ⟨Cat.tab [(1, .b 1 0)], [(1, .box [.s (mA p_d.Synced), .s (mA p_d.Loose), vb p_d.Down])]⟩) (fun v3 => law25N4 p_d v3 = some r) ?_ ?_
 ·refine sg ?_
  refine wT [(1, .b 1 0), (4, vi (0))] [(1, .box [.s (mA p_d.Synced), .s (mA p_d.Loose), vb p_d.Down])] Q2 J1 rfl ?_
  refine Ok.block ?_
  refine Ok.loop (fun (s2 : Int) => ⟨Cat.tab [(1, .b 1 0), (4, vi s2)], [(1, .box [.s (mA p_d.Synced), .s (mA p_d.Loose), vb p_d.Down])]⟩) (law25N2 p_d) (s0 := 0) h (Wk.tab Q2 ⟨⟨_, rfl, .refl _⟩, Q0⟩ rfl) ?_
  intro s2 y2 hB2 hy2
  unfold law25N2 at hB2
  refine Ok.seq ?_
  refine sg ?_
  refine ⟨_, rfl, _, List.length_map _, fun _ => ?_⟩
  refine wT [(1, .b 1 0), (4, vi s2), (34, vb (decide (s2 < (p_d.Loose.length : Int))))] [(1, .box [.s (mA p_d.Synced), .s (mA p_d.Loose), vb p_d.Down])] Q3 J1 rfl ?_
  refine Ok.cond (d := 34) (b := decide (s2 < (p_d.Loose.length : Int))) rfl hB2 (fun hb hB2 => ?_) fun hb hB2 => ?_
  ·refine Ok.skip ?_
   refine Ok.seq ?_
   refine Ok.block ?_
   refine sg ?_
   obtain ⟨x2, hx2, hB2⟩ := bindS hB2
   refine ⟨_, rfl, _, idx_nat hx2, _, idx_row hx2, _, rfl, _, List.length_map _, fun _ => ?_⟩
   refine wT [(1, .b 1 0), (4, vi s2), (44, vb (decide ((x2.Data.length : Int) > 200)))] [(1, .box [.s (mA p_d.Synced), .s (mA p_d.Loose), vb p_d.Down])] Q3 J1 rfl ?_
   refine Ok.cond (d := 44) (b := decide ((x2.Data.length : Int) > 200)) rfl hB2 (fun hb hB2 => ?_) fun hb hB2 => ?_
   ·refine sg ?_
    refine wT [(2, vb true)] [] Q1 Q0 rfl ?_
    refine Ok.ret ?_
    have hB2 := out_ret hB2 hy2
    cases hB2
    exact Fz.v
   refine Ok.skip ?_
   refine rg ?_
   obtain ⟨hc2, hB2⟩ := chk_some hB2
   refine (Or.inl ⟨hc2, ?_⟩)
   exact ⟨_, sj hB2, Wk.tab Q2 J1 rfl⟩
  refine Ok.exit ?_
  have hB2 := out_ret hB2 hy2
  exact ⟨_, hB2, Wk.tab Q1 ⟨⟨_, rfl, .refl _⟩, Q0⟩ rfl⟩
 intro v3 h
 unfold law25N4 at h
 refine sg ?_
 obtain ⟨x3, hx3, h⟩ := bindS h
 refine ⟨_, rfl, ?_⟩
 refine CallOk.call (w_ref04N3 hx3) (LeL.refl _) ?_
 refine wT [(2, vb (!x3))] [] Q1 Q0 rfl ?_
 refine Ok.ret ?_
 cases h
 exact Fz.v
theorem w_law27N1 {p_disks} {p_l} {r} (h : law27_Great p_disks p_l = some r) : Pure Tryz.prog 10 [(.s (mB p_disks)), (.s (mC p_l))] (vb r) := by
 refine pure_of_ok (n := 39) (c := Tryz.f10.body.getD .skip) Tryz.tok Tryz.func10 (by kernel_rfl) rfl rfl (Nat.le_of_ble_eq_true rfl) ?_
 unfold law27_Great at h
 refine wT [(0, .s (mB p_disks)), (1, .s (mC p_l))] [] Q2 Q0 rfl ?_
 refine sg ?_
 refine wT [(0, .s (mB p_disks)), (1, .s (mC p_l))] [] Q2 Q0 rfl ?_
 refine Ok.seq ?_
 obtain ⟨v1, hv1, h⟩ := bindS h
 refine Ok.seqw ⟨Cat.tab [(0, .s (mB p_disks)), (1, .s (mC p_l)), (14, vb v1)], []⟩ ?_ ?_
 ·refine rg ?_
  refine ⟨_, List.length_map _, fun _ => ?_⟩
  obtain ⟨c1, hg1, hv1⟩ := bindS hv1
  refine Br.itf hg1 (fun hb hg1 => ?_) fun hb hg1 => ?_
  ·cases hg1
   cases hv1
   exact Wk.tab Q3 Q0 rfl
  refine ⟨_, List.length_map _, fun _ => ?_⟩
  cases hg1
  cases hv1
  exact Wk.tab Q3 Q0 rfl
 refine Ok.cond (d := 14) (b := v1) rfl h (fun hb h => ?_) fun hb h => ?_
 ·refine sg ?_
  refine wT [(4, vb true)] [] Q1 Q0 rfl ?_
  refine Ok.ret ?_
  cases h
  exact Fz.v
 refine Ok.skip ?_
 refine Ok.seqj (fun v2 => ⟨Cat.tab [(1, .s (mC p_l))], []⟩) (fun v2 => law27N3 p_l v2 = some r) ?_ ?_
 ·refine sg ?_
  refine wT [(0, .s (mB p_disks)), (1, .s (mC p_l)), (5, vi (0))] [] Q3 Q0 rfl ?_
  refine Ok.block ?_
  refine Ok.loop (fun (s1 : Int) => ⟨Cat.tab [(0, .s (mB p_disks)), (1, .s (mC p_l)), (5, vi s1)], []⟩) (law27N1 p_disks p_l) (s0 := 0) h (Wk.tab Q3 Q0 rfl) ?_
  intro s1 y1 hB1 hy1
  unfold law27N1 at hB1
  refine Ok.seq ?_
  refine sg ?_
  refine ⟨_, List.length_map _, fun _ => ?_⟩
  refine wT [(0, .s (mB p_disks)), (1, .s (mC p_l)), (5, vi s1), (18, vb (decide (s1 < (p_disks.length : Int))))] [] Q4 Q0 rfl ?_
  refine Ok.cond (d := 18) (b := decide (s1 < (p_disks.length : Int))) rfl hB1 (fun hb hB1 => ?_) fun hb hB1 => ?_
  ·refine Ok.skip ?_
   refine Ok.seq ?_
   refine Ok.block ?_
   refine sg ?_
   obtain ⟨x1, hx1, hB1⟩ := bindS hB1
   obtain ⟨x2, hx2, hB1⟩ := bindS hB1
   refine ⟨_, idx_nat hx1, _, idx_row hx1, _, rfl, ?_⟩
   refine CallOk.call (w_law25N1 hx2) (LeL.refl _) ?_
   refine wT [(0, .s (mB p_disks)), (1, .s (mC p_l)), (5, vi s1), (25, vb x2)] [] Q4 Q0 rfl ?_
   refine Ok.cond (d := 25) (b := x2) rfl hB1 (fun hb hB1 => ?_) fun hb hB1 => ?_
   ·refine sg ?_
    refine wT [(4, vb true)] [] Q1 Q0 rfl ?_
    refine Ok.ret ?_
    have hB1 := out_ret hB1 hy1
    cases hB1
    exact Fz.v
   refine Ok.skip ?_
   refine rg ?_
   obtain ⟨hc1, hB1⟩ := chk_some hB1
   refine (Or.inl ⟨hc1, ?_⟩)
   exact ⟨_, sj hB1, Wk.tab Q3 Q0 rfl⟩
  refine Ok.exit ?_
  have hB1 := out_ret hB1 hy1
  exact ⟨_, hB1, Wk.tab Q1 Q0 rfl⟩
 intro v2 h
 unfold law27N3 at h
 refine Ok.seqj (fun v3 => ⟨Cat.tab [], []⟩) (fun v3 => law27N4 v3 = some r) ?_ ?_
 ·refine sg ?_
  refine wT [(1, .s (mC p_l)), (6, vi (0))] [] Q2 Q0 rfl ?_
  refine Ok.block ?_
  refine Ok.loop (fun (s2 : Int) => ⟨Cat.tab [(1, .s (mC p_l)), (6, vi s2)], []⟩) (law27N2 p_l) (s0 := 0) h (Wk.tab Q2 Q0 rfl) ?_
  intro s2 y2 hB2 hy2
  unfold law27N2 at hB2
  refine Ok.seq ?_
  refine sg ?_
  refine ⟨_, List.length_map _, fun _ => ?_⟩
  refine wT [(1, .s (mC p_l)), (6, vi s2), (29, vb (decide (s2 < (p_l.length : Int))))] [] Q3 Q0 rfl ?_
  refine Ok.cond (d := 29) (b := decide (s2 < (p_l.length : Int))) rfl hB2 (fun hb hB2 => ?_) fun hb hB2 => ?_
  ·refine Ok.skip ?_
   refine Ok.seq ?_
   refine Ok.block ?_
   refine sg ?_
   obtain ⟨x3, hx3, hB2⟩ := bindS hB2
   refine ⟨_, idx_nat hx3, _, idx_row hx3, _, rfl, _, List.length_map _, fun _ => ?_⟩
   refine wT [(1, .s (mC p_l)), (6, vi s2), (38, vb (decide ((x3.Servers.length : Int) > 12)))] [] Q3 Q0 rfl ?_
   refine Ok.cond (d := 38) (b := decide ((x3.Servers.length : Int) > 12)) rfl hB2 (fun hb hB2 => ?_) fun hb hB2 => ?_
   ·refine sg ?_
    refine wT [(4, vb true)] [] Q1 Q0 rfl ?_
    refine Ok.ret ?_
    have hB2 := out_ret hB2 hy2
    cases hB2
    exact Fz.v
   refine Ok.skip ?_
   refine rg ?_
   obtain ⟨hc2, hB2⟩ := chk_some hB2
   refine (Or.inl ⟨hc2, ?_⟩)
   exact ⟨_, sj hB2, Wk.tab Q2 Q0 rfl⟩
  refine Ok.exit ?_
  have hB2 := out_ret hB2 hy2
  exact ⟨_, hB2, Wk.tab Q0 Q0 rfl⟩
 intro v3 h
 unfold law27N4 at h
 refine sg ?_
 refine wT [(4, vb false)] [] Q1 Q0 rfl ?_
 refine Ok.ret ?_
 cases h
 exact Fz.v
theorem w_ref27_has {p_l} {p_x} {r} (h : ref27_has p_l p_x = some r) : Pure Tryz.prog 41 [(.s (mI p_l)), (vi p_x)] (vb r) := by
 refine pure_of_ok (n := 18) (c := Tryz.f41.body.getD .skip) Tryz.tok Tryz.func41 (by kernel_rfl) rfl rfl (Nat.le_of_ble_eq_true rfl) ?_
 unfold ref27_has at h
 refine wT [(0, .s (mI p_l)), (1, vi p_x)] [] Q2 Q0 rfl ?_
 refine sg ?_
 refine wT [(0, .s (mI p_l)), (1, vi p_x)] [] Q2 Q0 rfl ?_
 refine Ok.seqj (fun v1 => ⟨Cat.tab [], []⟩) (fun v1 => ref27N39 v1 = some r) ?_ ?_
 ·refine sg ?_
  refine wT [(0, .s (mI p_l)), (1, vi p_x), (5, vi (0))] [] Q3 Q0 rfl ?_
  refine Ok.block ?_
  refine Ok.loop (fun (s1 : Int) => ⟨Cat.tab [(0, .s (mI p_l)), (1, vi p_x), (5, vi s1)], []⟩) (ref27N38 p_l p_x) (s0 := 0) h (Wk.tab Q3 Q0 rfl) ?_
  intro s1 y1 hB1 hy1
  unfold ref27N38 at hB1
  refine Ok.seq ?_
  refine sg ?_
  refine ⟨_, List.length_map _, fun _ => ?_⟩
  refine wT [(0, .s (mI p_l)), (1, vi p_x), (5, vi s1), (9, vb (decide (s1 < (p_l.length : Int))))] [] Q4 Q0 rfl ?_
  refine Ok.cond (d := 9) (b := decide (s1 < (p_l.length : Int))) rfl hB1 (fun hb hB1 => ?_) fun hb hB1 => ?_
  ·refine Ok.skip ?_
   refine Ok.seq ?_
   refine Ok.block ?_
   refine sg ?_
   obtain ⟨x1, hx1, hB1⟩ := bindS hB1
   refine ⟨_, idx_nat hx1, _, idx_row hx1, _, rfl, ?_⟩
   refine wT [(0, .s (mI p_l)), (1, vi p_x), (5, vi s1), (17, vb (x1 == p_x))] [] Q4 Q0 rfl ?_
   refine Ok.cond (d := 17) (b := x1 == p_x) rfl hB1 (fun hb hB1 => ?_) fun hb hB1 => ?_
   ·refine sg ?_
    refine wT [(4, vb true)] [] Q1 Q0 rfl ?_
    refine Ok.ret ?_
    have hB1 := out_ret hB1 hy1
    cases hB1
    exact Fz.v
   refine Ok.skip ?_
   refine rg ?_
   obtain ⟨hc1, hB1⟩ := chk_some hB1
   refine (Or.inl ⟨hc1, ?_⟩)
   exact ⟨_, sj hB1, Wk.tab Q3 Q0 rfl⟩
  refine Ok.exit ?_
  have hB1 := out_ret hB1 hy1
  exact ⟨_, hB1, Wk.tab Q0 Q0 rfl⟩
 intro v1 h
 unfold ref27N39 at h
 refine sg ?_
 refine wT [(4, vb false)] [] Q1 Q0 rfl ?_
 refine Ok.ret ?_
 cases h
 exact Fz.v
theorem w_ref27N4 {p_l} {r} (h : ref27_Right p_l = some r) : Pure Tryz.prog 12 [(.s (mC p_l))] (vb r) := by
 refine pure_of_ok (n := 80) (c := Tryz.f12.body.getD .skip) Tryz.tok Tryz.func12 (by kernel_rfl) rfl rfl (Nat.le_of_ble_eq_true rfl) ?_
 unfold ref27_Right at h
 refine wT [(0, .s (mC p_l))] [] Q1 Q0 rfl ?_
 refine sg ?_
 refine wT [(0, .s (mC p_l))] [] Q1 Q0 rfl ?_
 refine Ok.seqj (fun v1 => ⟨Cat.tab [], []⟩) (fun v1 => ref27N10 v1 = some r) ?_ ?_
 ·refine sg ?_
  refine wT [(0, .s (mC p_l)), (3, vi (0))] [] Q2 Q0 rfl ?_
  refine Ok.block ?_
  refine Ok.loop (fun (s1 : Int) => ⟨Cat.tab [(0, .s (mC p_l)), (3, vi s1)], []⟩) (ref27N8 p_l) (s0 := 0) h (Wk.tab Q2 Q0 rfl) ?_
  intro s1 y1 hB1 hy1
  unfold ref27N8 at hB1
  refine Ok.seq ?_
  refine sg ?_
  refine ⟨_, List.length_map _, fun _ => ?_⟩
  refine wT [(0, .s (mC p_l)), (3, vi s1), (9, vb (decide (s1 < (p_l.length : Int))))] [] Q3 Q0 rfl ?_
  refine Ok.cond (d := 9) (b := decide (s1 < (p_l.length : Int))) rfl hB1 (fun hb hB1 => ?_) fun hb hB1 => ?_
  ·refine Ok.skip ?_
   refine Ok.seqj (fun v2 => ⟨Cat.tab [(0, .s (mC p_l)), (3, vi s1)], []⟩) (fun v2 => ref27N11 s1 v2 = some y1) ?_ ?_
   ·refine Ok.block ?_
    refine sg ?_
    obtain ⟨x1, hx1, hB1⟩ := bindS hB1
    refine ⟨_, idx_nat hx1, _, idx_row hx1, _, rfl, _, rfl, ?_⟩
    refine wT [(0, .s (mC p_l)), (3, vi s1), (4, .b 4 0)] [(4, .box [vi x1.Id, vi x1.Ver, .s (mI x1.Servers)])] Q3 J1 rfl ?_
    refine Ok.seq ?_
    obtain ⟨v3, hv3, hB1⟩ := bindS hB1
    refine Ok.seqw ⟨Cat.tab [(0, .s (mC p_l)), (3, vi s1), (4, .b 4 0), (54, vb v3)], [(4, .box [vi x1.Id, vi x1.Ver, .s (mI x1.Servers)])]⟩ ?_ ?_
    ·refine Ok.draw (m := 39) (MD := ⟨[]⟩) (CH := ⟨[]⟩) Tryz.tok Tryz.mixed (by kernel_rfl) ?_
     refine ⟨_, rfl, _, ⟨_, rfl, rfl⟩, _, rfl, _, rfl, ?_⟩
     obtain ⟨c1, hg1, hv3⟩ := bindS hv3
     refine Br.itf hg1 (fun hb hg1 => ?_) fun hb hg1 => ?_
     ·cases hg1
      refine ⟨_, rfl, ?_⟩
      refine ⟨_, rfl, ?_⟩
      obtain ⟨c2, hg2, hv3⟩ := bindS hv3
      replace hg2 := iteT hg2
      cases hg2
      refine ⟨_, rfl, ?_⟩
      refine ⟨_, rfl, ?_⟩
      obtain ⟨c3, hg3, hv3⟩ := bindS hv3
      replace hg3 := iteT hg3
      cases hg3
      refine ⟨_, rfl, ?_⟩
      refine ⟨_, rfl, ?_⟩
      obtain ⟨c4, hg4, hv3⟩ := bindS hv3
      replace hg4 := iteT hg4
      cases hg4
      refine ⟨_, rfl, ?_⟩
      refine ⟨_, rfl, ?_⟩
      obtain ⟨c6, hg5, hv3⟩ := bindS hv3
      replace hg5 := iteT hg5
      cases hg5
      refine ⟨_, rfl, ?_⟩
      refine ⟨Q0, ?_⟩
      cases hv3
      exact Wk.tab Q4 J1 rfl
     refine ⟨_, rfl, _, ⟨_, rfl, rfl⟩, _, rfl, ?_⟩
     cases hg1
     refine ⟨_, rfl, ?_⟩
     refine ⟨_, rfl, ?_⟩
     obtain ⟨c2, hg6, hv3⟩ := bindS hv3
     refine Br.itf hg6 (fun hb hg6 => ?_) fun hb hg6 => ?_
     ·cases hg6
      refine ⟨_, rfl, ?_⟩
      refine ⟨_, rfl, ?_⟩
      obtain ⟨c3, hg7, hv3⟩ := bindS hv3
      replace hg7 := iteT hg7
      cases hg7
      refine ⟨_, rfl, ?_⟩
      refine ⟨_, rfl, ?_⟩
      obtain ⟨c4, hg8, hv3⟩ := bindS hv3
      replace hg8 := iteT hg8
      cases hg8
      refine ⟨_, rfl, ?_⟩
      refine ⟨_, rfl, ?_⟩
      obtain ⟨c6, hg9, hv3⟩ := bindS hv3
      replace hg9 := iteT hg9
      cases hg9
      refine ⟨_, rfl, ?_⟩
      refine ⟨Q0, ?_⟩
      cases hv3
      exact Wk.tab Q4 J1 rfl
     refine ⟨_, rfl, _, ⟨_, rfl, rfl⟩, _, rfl, ?_⟩
     cases hg6
     refine ⟨_, rfl, ?_⟩
     refine ⟨_, rfl, ?_⟩
     obtain ⟨c3, hg10, hv3⟩ := bindS hv3
     refine Br.itf hg10 (fun hb hg10 => ?_) fun hb hg10 => ?_
     ·cases hg10
      refine ⟨_, rfl, ?_⟩
      refine ⟨_, rfl, ?_⟩
      obtain ⟨c4, hg11, hv3⟩ := bindS hv3
      replace hg11 := iteT hg11
      cases hg11
      refine ⟨_, rfl, ?_⟩
      refine ⟨_, rfl, ?_⟩
      obtain ⟨c6, hg12, hv3⟩ := bindS hv3
      replace hg12 := iteT hg12
      cases hg12
      refine ⟨_, rfl, ?_⟩
      refine ⟨Q0, ?_⟩
      cases hv3
      exact Wk.tab Q4 J1 rfl
     refine ⟨_, rfl, _, ⟨_, rfl, rfl⟩, _, rfl, ?_⟩
     cases hg10
     refine ⟨_, rfl, ?_⟩
     refine ⟨_, rfl, ?_⟩
     obtain ⟨c4, hg13, hv3⟩ := bindS hv3
     refine Br.itf hg13 (fun hb hg13 => ?_) fun hb hg13 => ?_
     ·cases hg13
      refine ⟨_, rfl, ?_⟩
      refine ⟨_, rfl, ?_⟩
      obtain ⟨c6, hg14, hv3⟩ := bindS hv3
      replace hg14 := iteT hg14
      cases hg14
      refine ⟨_, rfl, ?_⟩
      refine ⟨Q0, ?_⟩
      cases hv3
      exact Wk.tab Q4 J1 rfl
     refine ⟨_, rfl, _, ⟨_, rfl, rfl⟩, _, ⟨_, List.length_map _, fun _ => rfl⟩, _, rfl, ?_⟩
     cases hg13
     refine ⟨_, rfl, ?_⟩
     refine ⟨_, rfl, ?_⟩
     obtain ⟨c6, hg15, hv3⟩ := bindS hv3
     refine Br.itf hg15 (fun hb hg15 => ?_) fun hb hg15 => ?_
     ·cases hg15
      refine ⟨_, rfl, ?_⟩
      refine ⟨Q0, ?_⟩
      cases hv3
      exact Wk.tab Q4 J1 rfl
     refine ⟨_, rfl, _, rfl, _, rfl, ?_⟩
     obtain ⟨c5, hg16, hg15⟩ := bindS hg15
     refine Br.ite hg16 (fun hb hg16 => ?_) fun hb hg16 => ?_
     ·obtain ⟨hc1, hg16⟩ := chk_some hg16
      obtain ⟨x2, hx2, hg16⟩ := bindS hg16
      refine ⟨_, rfl, _, rfl, _, Or.inl ⟨hc1, rfl⟩, _, ⟨_, idx_nat hx2, _, idx_row hx2, rfl⟩, _, rfl, _, ⟨_, rfl, rfl⟩, _, rfl, _, ⟨_, rfl, rfl⟩, _, rfl, ?_⟩
      cases hg16
      refine ⟨_, rfl, ?_⟩
      cases hg15
      refine ⟨_, rfl, ?_⟩
      refine ⟨Q0, ?_⟩
      cases hv3
      exact Wk.tab Q4 J1 rfl
     cases hg16
     refine ⟨_, rfl, ?_⟩
     cases hg15
     refine ⟨_, rfl, ?_⟩
     refine ⟨Q0, ?_⟩
     cases hv3
     exact Wk.tab Q4 J1 rfl
    refine Ok.cond (d := 54) (b := v3) rfl hB1 (fun hb hB1 => ?_) fun hb hB1 => ?_
    ·refine sg ?_
     refine wT [(2, vb false)] [] Q1 Q0 rfl ?_
     refine Ok.ret ?_
     have hB1 := out_ret hB1 hy1
     cases hB1
     exact Fz.v
    refine Ok.skip ?_
    refine sg ?_
    refine wT [(0, .s (mC p_l)), (3, vi s1), (4, .b 4 0), (5, vi (0))] [(4, .box [vi x1.Id, vi x1.Ver, .s (mI x1.Servers)])] Q4 J1 rfl ?_
    refine Ok.block ?_
    refine Ok.loop (fun (s2 : Int) => ⟨Cat.tab [(0, .s (mC p_l)), (3, vi s1), (4, .b 4 0), (5, vi s2)], [(4, .box [vi x1.Id, vi x1.Ver, .s (mI x1.Servers)])]⟩) (ref27N9 x1 s1) (s0 := 0) hB1 (Wk.tab Q4 ⟨⟨_, rfl, .refl _⟩, Q0⟩ rfl) ?_
    intro s2 y2 hB2 hy2
    unfold ref27N9 at hB2
    refine Ok.seq ?_
    refine sg ?_
    refine ⟨_, rfl, _, List.length_map _, fun _ => ?_⟩
    refine wT [(0, .s (mC p_l)), (3, vi s1), (4, .b 4 0), (5, vi s2), (59, vb (decide (s2 < (x1.Servers.length : Int))))] [(4, .box [vi x1.Id, vi x1.Ver, .s (mI x1.Servers)])] Q5 J1 rfl ?_
    refine Ok.cond (d := 59) (b := decide (s2 < (x1.Servers.length : Int))) rfl hB2 (fun hb hB2 => ?_) fun hb hB2 => ?_
    ·refine Ok.skip ?_
     refine Ok.seq ?_
     refine Ok.block ?_
     obtain ⟨v4, hv4, hB2⟩ := bindS hB2
     refine Ok.seqw ⟨Cat.tab [(0, .s (mC p_l)), (3, vi s1), (4, .b 4 0), (5, vi s2), (79, vb v4)], [(4, .box [vi x1.Id, vi x1.Ver, .s (mI x1.Servers)])]⟩ ?_ ?_
     ·refine Ok.draw (m := 18) (MD := ⟨[]⟩) (CH := ⟨[]⟩) Tryz.tok Tryz.mixed (by kernel_rfl) ?_
      obtain ⟨x3, hx3, hv4⟩ := bindS hv4
      refine ⟨_, rfl, _, ⟨_, rfl, rfl⟩, _, rfl, _, ⟨_, idx_nat hx3, _, idx_row hx3, rfl⟩, _, ⟨_, rfl, rfl⟩, _, rfl, _, rfl, ?_⟩
      obtain ⟨c7, hg17, hv4⟩ := bindS hv4
      refine Br.itf hg17 (fun hb hg17 => ?_) fun hb hg17 => ?_
      ·cases hg17
       refine ⟨_, rfl, ?_⟩
       refine ⟨Q0, ?_⟩
       cases hv4
       exact Wk.tab Q5 J1 rfl
      obtain ⟨hc2, hg17⟩ := chk_some hg17
      obtain ⟨x4, hx4, hg17⟩ := bindS hg17
      obtain ⟨x5, hx5, hg17⟩ := bindS hg17
      refine ⟨_, rfl, _, ⟨_, rfl, rfl⟩, _, rfl, _, ⟨_, sl_nat hc2.1, Nat.zero_le _, sl_len hc2, rowsK (f := Go.Cat.encI) (K := 1) (fun _ => rfl) x1.Servers, _, sl_take _ _ _, rfl⟩, _, rfl, _, ⟨_, rfl, rfl⟩, _, rfl, _, ⟨_, idx_nat hx4, _, idx_row hx4, rfl⟩, _, ⟨_, rfl, rfl⟩, _, ⟨_, .of_pure (w_ref27_has hx5) (LeL.refl _), rfl⟩, ?_⟩
      cases hg17
      refine ⟨_, rfl, ?_⟩
      refine ⟨Q0, ?_⟩
      cases hv4
      exact Wk.tab Q5 J1 rfl
     refine Ok.cond (d := 79) (b := v4) rfl hB2 (fun hb hB2 => ?_) fun hb hB2 => ?_
     ·refine sg ?_
      refine wT [(2, vb false)] [] Q1 Q0 rfl ?_
      refine Ok.ret ?_
      have hB2 := out_ret hB2 hy2
      have hB2 := out_ret hB2 hy1
      cases hB2
      exact Fz.v
     refine Ok.skip ?_
     refine rg ?_
     obtain ⟨hc3, hB2⟩ := chk_some hB2
     refine (Or.inl ⟨hc3, ?_⟩)
     exact ⟨_, sj hB2, Wk.tab Q4 J1 rfl⟩
    refine Ok.exit ?_
    have hB2 := out_ret hB2 hy2
    exact ⟨_, hB2, Wk.tab Q2 Q0 rfl⟩
   intro v2 hB1
   unfold ref27N11 at hB1
   refine rg ?_
   obtain ⟨hc4, hB1⟩ := chk_some hB1
   refine (Or.inl ⟨hc4, ?_⟩)
   exact ⟨_, sj hB1, Wk.tab Q2 Q0 rfl⟩
  refine Ok.exit ?_
  have hB1 := out_ret hB1 hy1
  exact ⟨_, hB1, Wk.tab Q0 Q0 rfl⟩
 intro v1 h
 unfold ref27N10 at h
 refine sg ?_
 refine wT [(2, vb true)] [] Q1 Q0 rfl ?_
 refine Ok.ret ?_
 cases h
 exact Fz.v
theorem w_ref04N2 {p_d} {p_at} {r} (h : ref04_Read p_d p_at = some r) : Pure Tryz.prog 92 [(.a [(.s (mA p_d.Synced)), (.s (mA p_d.Loose)), (vb p_d.Down)]), (vi p_at)] (.t [(.s (mU r.1)), (vi r.2)]) := by
 refine pure_of_ok (n := 59) (c := Tryz.f92.body.getD .skip) Tryz.tok Tryz.func92 (by kernel_rfl) rfl rfl (Nat.le_of_ble_eq_true rfl) ?_
 unfold ref04_Read at h
 refine wT [(0, .a [.s (mA p_d.Synced), .s (mA p_d.Loose), vb p_d.Down]), (1, vi p_at)] [] Q2 Q0 rfl ?_
 refine sg ?_
 refine wT [(1, vi p_at), (2, .b 2 0)] [(2, .box [.s (mA p_d.Synced), .s (mA p_d.Loose), vb p_d.Down])] Q2 J1 rfl ?_
 refine Ok.seq ?_
 refine sg ?_
 refine ⟨_, rfl, ?_⟩
 refine wT [(1, vi p_at), (2, .b 2 0), (9, vb p_d.Down)] [(2, .box [.s (mA p_d.Synced), .s (mA p_d.Loose), vb p_d.Down])] Q3 J1 rfl ?_
 refine Ok.cond (d := 9) (b := p_d.Down) rfl h (fun hb h => ?_) fun hb h => ?_
 ·refine sg ?_
  refine wT [(4, .v (.slice none 0 0)), (5, vi (40))] [] Q2 Q0 rfl ?_
  refine Ok.ret ?_
  cases h
  exact (Fz.t (.cons Fz.nil (.cons Fz.v .nil)))
 refine Ok.skip ?_
 refine Ok.seq ?_
 obtain ⟨v1, hv1, h⟩ := bindS h
 refine Ok.seqw ⟨Cat.tab [(1, vi p_at), (2, .b 2 0), (15, vb v1)], [(2, .box [.s (mA p_d.Synced), .s (mA p_d.Loose), vb p_d.Down])]⟩ ?_ ?_
 ·refine rg ?_
  obtain ⟨c1, hg1, hv1⟩ := bindS hv1
  refine Br.itf hg1 (fun hb hg1 => ?_) fun hb hg1 => ?_
  ·cases hg1
   cases hv1
   exact Wk.tab Q3 J1 rfl
  cases hg1
  cases hv1
  exact Wk.tab Q3 J1 rfl
 refine Ok.cond (d := 15) (b := v1) rfl h (fun hb h => ?_) fun hb h => ?_
 ·refine sg ?_
  refine wT [(4, .v (.slice none 0 0)), (5, vi (1))] [] Q2 Q0 rfl ?_
  refine Ok.ret ?_
  cases h
  exact (Fz.t (.cons Fz.nil (.cons Fz.v .nil)))
 refine Ok.skip ?_
 refine Ok.seqj (fun v2 => ⟨Cat.tab [(1, vi p_at), (2, .b 2 0)], [(2, .box [.s (mA p_d.Synced), .s (mA p_d.Loose), vb p_d.Down])]⟩) (fun v2 => ref04N3 p_d p_at v2 = some r) ?_ ?_
 ·refine sg ?_
  obtain ⟨hc1, h⟩ := chk_some h
  refine ⟨_, rfl, _, List.length_map _, fun _ => (Or.inl ⟨hc1, ?_⟩)⟩
  refine wT [(1, vi p_at), (2, .b 2 0), (6, vi ((p_d.Loose.length : Int) - 1))] [(2, .box [.s (mA p_d.Synced), .s (mA p_d.Loose), vb p_d.Down])] Q3 J1 rfl ?_
  refine Ok.block ?_
  refine Ok.loop (fun (s1 : Int) => ⟨Cat.tab [(1, vi p_at), (2, .b 2 0), (6, vi s1)], [(2, .box [.s (mA p_d.Synced), .s (mA p_d.Loose), vb p_d.Down])]⟩) (ref04N1 p_d p_at) (s0 := (p_d.Loose.length : Int) - 1) h (Wk.tab Q3 ⟨⟨_, rfl, .refl _⟩, Q0⟩ rfl) ?_
  intro s1 y1 hB1 hy1
  unfold ref04N1 at hB1
  refine Ok.seq ?_
  refine sg ?_
  refine wT [(1, vi p_at), (2, .b 2 0), (6, vi s1), (21, vb (decide (s1 ≥ 0)))] [(2, .box [.s (mA p_d.Synced), .s (mA p_d.Loose), vb p_d.Down])] Q4 J1 rfl ?_
  refine Ok.cond (d := 21) (b := decide (s1 ≥ 0)) rfl hB1 (fun hb hB1 => ?_) fun hb hB1 => ?_
  ·refine Ok.skip ?_
   refine Ok.seq ?_
   refine Ok.block ?_
   refine sg ?_
   obtain ⟨x1, hx1, hB1⟩ := bindS hB1
   refine ⟨_, rfl, _, idx_nat hx1, _, idx_row hx1, _, rfl, ?_⟩
   refine wT [(1, vi p_at), (2, .b 2 0), (6, vi s1), (31, vb (x1.At == p_at))] [(2, .box [.s (mA p_d.Synced), .s (mA p_d.Loose), vb p_d.Down])] Q4 J1 rfl ?_
   refine Ok.cond (d := 31) (b := x1.At == p_at) rfl hB1 (fun hb hB1 => ?_) fun hb hB1 => ?_
   ·refine sg ?_
    obtain ⟨x2, hx2, hB1⟩ := bindS hB1
    refine ⟨_, rfl, _, idx_nat hx2, _, idx_row hx2, _, rfl, ?_⟩
    refine wT [(4, .s (mU x2.Data)), (5, vi (0))] [] Q2 Q0 rfl ?_
    refine Ok.ret ?_
    have hB1 := out_ret hB1 hy1
    cases hB1
    exact (Fz.t (.cons Fz.s (.cons Fz.v .nil)))
   refine Ok.skip ?_
   refine rg ?_
   obtain ⟨hc2, hB1⟩ := chk_some hB1
   refine (Or.inl ⟨hc2, ?_⟩)
   exact ⟨_, sj hB1, Wk.tab Q3 J1 rfl⟩
  refine Ok.exit ?_
  have hB1 := out_ret hB1 hy1
  exact ⟨_, hB1, Wk.tab Q2 ⟨⟨_, rfl, .refl _⟩, Q0⟩ rfl⟩
 intro v2 h
 unfold ref04N3 at h
 refine Ok.seqj (fun v3 => ⟨Cat.tab [], []⟩) (fun v3 => ref04N4 v3 = some r) ?_ ?_
 ·refine sg ?_
  refine wT [(1, vi p_at), (2, .b 2 0), (7, vi (0))] [(2, .box [.s (mA p_d.Synced), .s (mA p_d.Loose), vb p_d.Down])] Q3 J1 rfl ?_
  refine Ok.block ?_
  refine Ok.loop (fun (s2 : Int) => ⟨Cat.tab [(1, vi p_at), (2, .b 2 0), (7, vi s2)], [(2, .box [.s (mA p_d.Synced), .s (mA p_d.Loose), vb p_d.Down])]⟩) (ref04N2 p_d p_at) (s0 := 0) h (Wk.tab Q3 ⟨⟨_, rfl, .refl _⟩, Q0⟩ rfl) ?_
  intro s2 y2 hB2 hy2
  unfold ref04N2 at hB2
  refine Ok.seq ?_
  refine sg ?_
  refine ⟨_, rfl, _, List.length_map _, fun _ => ?_⟩
  refine wT [(1, vi p_at), (2, .b 2 0), (7, vi s2), (42, vb (decide (s2 < (p_d.Synced.length : Int))))] [(2, .box [.s (mA p_d.Synced), .s (mA p_d.Loose), vb p_d.Down])] Q4 J1 rfl ?_
  refine Ok.cond (d := 42) (b := decide (s2 < (p_d.Synced.length : Int))) rfl hB2 (fun hb hB2 => ?_) fun hb hB2 => ?_
  ·refine Ok.skip ?_
   refine Ok.seq ?_
   refine Ok.block ?_
   refine sg ?_
   obtain ⟨x3, hx3, hB2⟩ := bindS hB2
   refine ⟨_, rfl, _, idx_nat hx3, _, idx_row hx3, _, rfl, ?_⟩
   refine wT [(1, vi p_at), (2, .b 2 0), (7, vi s2), (52, vb (x3.At == p_at))] [(2, .box [.s (mA p_d.Synced), .s (mA p_d.Loose), vb p_d.Down])] Q4 J1 rfl ?_
   refine Ok.cond (d := 52) (b := x3.At == p_at) rfl hB2 (fun hb hB2 => ?_) fun hb hB2 => ?_
   ·refine sg ?_
    obtain ⟨x4, hx4, hB2⟩ := bindS hB2
    refine ⟨_, rfl, _, idx_nat hx4, _, idx_row hx4, _, rfl, ?_⟩
    refine wT [(4, .s (mU x4.Data)), (5, vi (0))] [] Q2 Q0 rfl ?_
    refine Ok.ret ?_
    have hB2 := out_ret hB2 hy2
    cases hB2
    exact (Fz.t (.cons Fz.s (.cons Fz.v .nil)))
   refine Ok.skip ?_
   refine rg ?_
   obtain ⟨hc3, hB2⟩ := chk_some hB2
   refine (Or.inl ⟨hc3, ?_⟩)
   exact ⟨_, sj hB2, Wk.tab Q3 J1 rfl⟩
  refine Ok.exit ?_
  have hB2 := out_ret hB2 hy2
  exact ⟨_, hB2, Wk.tab Q0 Q0 rfl⟩
 intro v3 h
 unfold ref04N4 at h
 refine sg ?_
 refine wT [(4, .v (.slice none 0 0)), (5, vi (41))] [] Q2 Q0 rfl ?_
 refine Ok.ret ?_
 cases h
 exact (Fz.t (.cons Fz.nil (.cons Fz.v .nil)))
theorem w_ref01_zag {p_u} {r} (h : ref01_zag p_u = some r) : Pure Tryz.prog 169 [(.v (.int .u64 p_u))] (vi r) := by
 refine pure_of_ok (n := 14) (c := Tryz.f169.body.getD .skip) Tryz.tok Tryz.func169 (by kernel_rfl) rfl rfl (Nat.le_of_ble_eq_true rfl) ?_
 unfold ref01_zag at h
 refine wT [(0, .v (.int .u64 p_u))] [] Q1 Q0 rfl ?_
 refine sg ?_
 refine wT [(0, .v (.int .u64 p_u))] [] Q1 Q0 rfl ?_
 refine Ok.seq ?_
 refine sg ?_
 refine ⟨(by decide), _, rfl, ?_⟩
 refine wT [(0, .v (.int .u64 p_u)), (5, vb ((Int.tmod p_u (2)) == 1))] [] Q2 Q0 rfl ?_
 refine Ok.cond (d := 5) (b := (Int.tmod p_u (2)) == 1) rfl h (fun hb h => ?_) fun hb h => ?_
 ·refine sg ?_
  obtain ⟨hc1, h⟩ := chk_some h
  obtain ⟨hc2, h⟩ := chk_some h
  refine ⟨(by decide), _, rfl, _, rfl, _, InI64.wrap hc1, (Or.inl ⟨hc2, ?_⟩)⟩
  refine wT [(2, vi ((0 - (IntKind.i64.wrap (quoK .u64 p_u (2)))) - 1))] [] Q1 Q0 rfl ?_
  refine Ok.ret ?_
  cases h
  exact Fz.v
 refine Ok.skip ?_
 refine sg ?_
 refine ⟨(by decide), _, rfl, _, rfl, ?_⟩
 refine wT [(2, vi (IntKind.i64.wrap (quoK .u64 p_u (2))))] [] Q1 Q0 rfl ?_
 refine Ok.ret ?_
 cases h
 exact Fz.v
theorem w_ref01N2 {p_b} {r} (h : ref01N5 p_b = some r) : Pure Tryz.prog 134 [(.s (mU p_b))] (.t [(vi r.1), (.s (mU r.2.1)), (vi r.2.2)]) := by
 refine pure_of_ok (n := 61) (c := Tryz.f134.body.getD .skip) Tryz.tok Tryz.func134 (by kernel_rfl) rfl rfl (Nat.le_of_ble_eq_true rfl) ?_
 unfold ref01N5 at h
 refine wT [(0, .s (mU p_b))] [] Q1 Q0 rfl ?_
 refine sg ?_
 refine wT [(0, .s (mU p_b))] [] Q1 Q0 rfl ?_
 refine sg ?_
 refine wT [(0, .s (mU p_b)), (5, .v (.int .u64 (0)))] [] Q2 Q0 rfl ?_
 refine sg ?_
 refine wT [(0, .s (mU p_b)), (5, .v (.int .u64 (0))), (6, .v (.int .u64 (1)))] [] Q3 Q0 rfl ?_
 refine Ok.seqj (fun v1 => ⟨Cat.tab [], []⟩) (fun v1 => ref01N7 v1 = some r) ?_ ?_
 ·refine sg ?_
  refine wT [(0, .s (mU p_b)), (5, .v (.int .u64 (0))), (6, .v (.int .u64 (1))), (7, vi (0))] [] Q4 Q0 rfl ?_
  refine Ok.block ?_
  refine Ok.loop (fun (s1 : Int × Int × Int) => ⟨Cat.tab [(0, .s (mU p_b)), (5, .v (.int .u64 s1.1)), (6, .v (.int .u64 s1.2.1)), (7, vi s1.2.2)], []⟩) (ref01N6 p_b) (s0 := (0, 1, 0)) h (Wk.tab Q4 Q0 rfl) ?_
  intro s1 y1 hB1 hy1
  unfold ref01N6 at hB1
  refine Ok.seq ?_
  obtain ⟨v2, hv2, hB1⟩ := bindS hB1
  refine Ok.seqw ⟨Cat.tab [(0, .s (mU p_b)), (5, .v (.int .u64 s1.1)), (6, .v (.int .u64 s1.2.1)), (7, vi s1.2.2), (16, vb v2)], []⟩ ?_ ?_
  ·refine rg ?_
   refine ⟨_, List.length_map _, fun _ => ?_⟩
   obtain ⟨c1, hg1, hv2⟩ := bindS hv2
   refine Br.ite hg1 (fun hb hg1 => ?_) fun hb hg1 => ?_
   ·cases hg1
    cases hv2
    exact Wk.tab Q5 Q0 rfl
   cases hg1
   cases hv2
   exact Wk.tab Q5 Q0 rfl
  refine Ok.cond (d := 16) (b := v2) rfl hB1 (fun hb hB1 => ?_) fun hb hB1 => ?_
  ·refine Ok.skip ?_
   refine Ok.seq ?_
   refine Ok.block ?_
   refine sg ?_
   obtain ⟨x1, hx1, hB1⟩ := bindS hB1
   refine ⟨_, idx_nat hx1, _, idx_row hx1, _, rfl, (by decide), _, b8_rem _ _, _, wrap_of_u8 (k := .u64) (by decide) _, ?_⟩
   refine wT [(0, .s (mU p_b)), (5, .v (.int .u64 s1.1)), (6, .v (.int .u64 s1.2.1)), (7, vi s1.2.2), (8, .v (.int .u64 ((toU8 (Int.tmod (x1.toNat : Int) (128))).toNat : Int)))] [] Q5 Q0 rfl ?_
   refine Ok.seq ?_
   obtain ⟨v3, hv3, hB1⟩ := bindS hB1
   refine Ok.seqw ⟨Cat.tab [(0, .s (mU p_b)), (5, .v (.int .u64 s1.1)), (6, .v (.int .u64 s1.2.1)), (7, vi s1.2.2), (8, .v (.int .u64 ((toU8 (Int.tmod (x1.toNat : Int) (128))).toNat : Int))), (33, vb v3)], []⟩ ?_ ?_
   ·refine rg ?_
    obtain ⟨c2, hg2, hv3⟩ := bindS hv3
    refine Br.ite hg2 (fun hb hg2 => ?_) fun hb hg2 => ?_
    ·obtain ⟨x2, hx2, hg2⟩ := bindS hg2
     refine ⟨_, idx_nat hx2, _, idx_row hx2, _, rfl, ?_⟩
     cases hg2
     cases hv3
     exact Wk.tab Q6 Q0 rfl
    cases hg2
    cases hv3
    exact Wk.tab Q6 Q0 rfl
   refine Ok.cond (d := 33) (b := v3) rfl hB1 (fun hb hB1 => ?_) fun hb hB1 => ?_
   ·refine sg ?_
    refine wT [(2, vi (0)), (3, .v (.slice none 0 0)), (4, vi (11))] [] Q3 Q0 rfl ?_
    refine Ok.ret ?_
    have hB1 := out_ret hB1 hy1
    cases hB1
    exact (Fz.t (.cons Fz.v (.cons Fz.nil (.cons Fz.v .nil))))
   refine Ok.skip ?_
   refine sg ?_
   refine ⟨_, rfl, _, rfl, ?_⟩
   refine wT [(0, .s (mU p_b)), (5, .v (.int .u64 (IntKind.u64.wrap (s1.1 + (IntKind.u64.wrap (s1.2.1 * ((toU8 (Int.tmod (x1.toNat : Int) (128))).toNat : Int))))))), (6, .v (.int .u64 s1.2.1)), (7, vi s1.2.2)] [] Q4 Q0 rfl ?_
   refine sg ?_
   refine ⟨_, rfl, ?_⟩
   refine wT [(0, .s (mU p_b)), (5, .v (.int .u64 (IntKind.u64.wrap (s1.1 + (IntKind.u64.wrap (s1.2.1 * ((toU8 (Int.tmod (x1.toNat : Int) (128))).toNat : Int))))))), (6, .v (.int .u64 (IntKind.u64.wrap (s1.2.1 * 128)))), (7, vi s1.2.2)] [] Q4 Q0 rfl ?_
   refine sg ?_
   obtain ⟨x3, hx3, hB1⟩ := bindS hB1
   refine ⟨_, idx_nat hx3, _, idx_row hx3, _, rfl, ?_⟩
   refine wT [(0, .s (mU p_b)), (5, .v (.int .u64 (IntKind.u64.wrap (s1.1 + (IntKind.u64.wrap (s1.2.1 * ((toU8 (Int.tmod (x1.toNat : Int) (128))).toNat : Int))))))), (6, .v (.int .u64 (IntKind.u64.wrap (s1.2.1 * 128)))), (7, vi s1.2.2), (45, vb (decide ((x3.toNat : Int) < 128)))] [] Q5 Q0 rfl ?_
   refine Ok.cond (d := 45) (b := decide ((x3.toNat : Int) < 128)) rfl hB1 (fun hb hB1 => ?_) fun hb hB1 => ?_
   ·refine Ok.seq ?_
    obtain ⟨v4, hv4, hB1⟩ := bindS hB1
    refine Ok.seqw ⟨Cat.tab [(0, .s (mU p_b)), (5, .v (.int .u64 (IntKind.u64.wrap (s1.1 + (IntKind.u64.wrap (s1.2.1 * ((toU8 (Int.tmod (x1.toNat : Int) (128))).toNat : Int))))))), (7, vi s1.2.2), (54, vb v4)], []⟩ ?_ ?_
    ·refine rg ?_
     obtain ⟨c3, hg3, hv4⟩ := bindS hv4
     refine Br.ite hg3 (fun hb hg3 => ?_) fun hb hg3 => ?_
     ·obtain ⟨x4, hx4, hg3⟩ := bindS hg3
      refine ⟨_, idx_nat hx4, _, idx_row hx4, _, rfl, ?_⟩
      cases hg3
      cases hv4
      exact Wk.tab Q4 Q0 rfl
     cases hg3
     cases hv4
     exact Wk.tab Q4 Q0 rfl
    refine Ok.cond (d := 54) (b := v4) rfl hB1 (fun hb hB1 => ?_) fun hb hB1 => ?_
    ·refine sg ?_
     refine wT [(2, vi (0)), (3, .v (.slice none 0 0)), (4, vi (11))] [] Q3 Q0 rfl ?_
     refine Ok.ret ?_
     have hB1 := out_ret hB1 hy1
     cases hB1
     exact (Fz.t (.cons Fz.v (.cons Fz.nil (.cons Fz.v .nil))))
    refine Ok.skip ?_
    refine Ok.seq ?_
    refine Ok.draw (m := 9) (MD := ⟨[]⟩) (CH := ⟨[]⟩) Tryz.tok Tryz.mixed (by kernel_rfl) ?_
    obtain ⟨x5, hx5, hB1⟩ := bindS hB1
    obtain ⟨hc1, hB1⟩ := chk_some hB1
    obtain ⟨hc2, hB1⟩ := chk_some hB1
    refine ⟨_, rfl, _, ⟨_, .of_pure (w_ref01_zag hx5) (LeL.refl _), rfl⟩, _, rfl, _, rfl, _, Or.inl ⟨hc1, rfl⟩, _, ⟨_, sl_nat hc2.1, sl_len hc2, Nat.le_refl _, rowsK (f := cU8) (K := 1) (fun _ => rfl) p_b, _, sl_drop _ _ _, rfl⟩, _, rfl, _, rfl, _, rfl, Q0, ?_⟩
    refine wT [(2, vi x5), (3, .s (mU (p_b.drop (s1.2.2 + 1).toNat))), (4, vi (0))] [] Q3 Q0 rfl ?_
    refine Ok.ret ?_
    have hB1 := out_ret hB1 hy1
    cases hB1
    exact (Fz.t (.cons Fz.v (.cons Fz.s (.cons Fz.v .nil))))
   refine Ok.skip ?_
   refine rg ?_
   obtain ⟨hc3, hB1⟩ := chk_some hB1
   refine (Or.inl ⟨hc3, ?_⟩)
   exact ⟨_, sj hB1, Wk.tab Q4 Q0 rfl⟩
  refine Ok.exit ?_
  have hB1 := out_ret hB1 hy1
  exact ⟨_, hB1, Wk.tab Q0 Q0 rfl⟩
 intro v1 h
 unfold ref01N7 at h
 refine sg ?_
 refine wT [(2, vi (0)), (3, .v (.slice none 0 0)), (4, vi (10))] [] Q3 Q0 rfl ?_
 refine Ok.ret ?_
 cases h
 exact (Fz.t (.cons Fz.v (.cons Fz.nil (.cons Fz.v .nil))))
theorem w_ref01N5 {p_b} {r} (h : ref01_count p_b = some r) : Pure Tryz.prog 170 [(.s (mU p_b))] (.t [(vi r.1), (.s (mU r.2.1)), (vi r.2.2)]) := by
 refine pure_of_ok (n := 25) (c := Tryz.f170.body.getD .skip) Tryz.tok Tryz.func170 (by kernel_rfl) rfl rfl (Nat.le_of_ble_eq_true rfl) ?_
 unfold ref01_count at h
 refine wT [(0, .s (mU p_b))] [] Q1 Q0 rfl ?_
 refine sg ?_
 refine wT [(0, .s (mU p_b))] [] Q1 Q0 rfl ?_
 refine sg ?_
 obtain ⟨x1, hx1, h⟩ := bindS h
 refine CallOk.call (w_ref01N2 hx1) (LeL.refl _) ?_
 refine wT [(5, vi x1.1), (6, .s (mU x1.2.1)), (7, vi x1.2.2)] [] Q3 Q0 rfl ?_
 refine Ok.seq ?_
 refine sg ?_
 refine wT [(5, vi x1.1), (6, .s (mU x1.2.1)), (7, vi x1.2.2), (15, vb (x1.2.2 != 0))] [] Q4 Q0 rfl ?_
 refine Ok.cond (d := 15) (b := x1.2.2 != 0) rfl h (fun hb h => ?_) fun hb h => ?_
 ·refine sg ?_
  refine wT [(2, vi (0)), (3, .v (.slice none 0 0)), (4, vi x1.2.2)] [] Q3 Q0 rfl ?_
  refine Ok.ret ?_
  cases h
  exact (Fz.t (.cons Fz.v (.cons Fz.nil (.cons Fz.v .nil))))
 refine Ok.skip ?_
 refine Ok.seq ?_
 refine sg ?_
 refine wT [(5, vi x1.1), (6, .s (mU x1.2.1)), (18, vb (decide (x1.1 < 0)))] [] Q3 Q0 rfl ?_
 refine Ok.cond (d := 18) (b := decide (x1.1 < 0)) rfl h (fun hb h => ?_) fun hb h => ?_
 ·refine sg ?_
  refine wT [(2, vi (0)), (3, .v (.slice none 0 0)), (4, vi (11))] [] Q3 Q0 rfl ?_
  refine Ok.ret ?_
  cases h
  exact (Fz.t (.cons Fz.v (.cons Fz.nil (.cons Fz.v .nil))))
 refine Ok.skip ?_
 refine Ok.seq ?_
 refine sg ?_
 refine ⟨_, List.length_map _, fun _ => ?_⟩
 refine wT [(5, vi x1.1), (6, .s (mU x1.2.1)), (22, vb (decide (x1.1 > (x1.2.1.length : Int))))] [] Q3 Q0 rfl ?_
 refine Ok.cond (d := 22) (b := decide (x1.1 > (x1.2.1.length : Int))) rfl h (fun hb h => ?_) fun hb h => ?_
 ·refine sg ?_
  refine wT [(2, vi (0)), (3, .v (.slice none 0 0)), (4, vi (10))] [] Q3 Q0 rfl ?_
  refine Ok.ret ?_
  cases h
  exact (Fz.t (.cons Fz.v (.cons Fz.nil (.cons Fz.v .nil))))
 refine Ok.skip ?_
 refine sg ?_
 refine wT [(2, vi x1.1), (3, .s (mU x1.2.1)), (4, vi (0))] [] Q3 Q0 rfl ?_
 refine Ok.ret ?_
 cases h
 exact (Fz.t (.cons Fz.v (.cons Fz.s (.cons Fz.v .nil))))
theorem w_ref01N4 {p_b} {r} (h : ref01N13 p_b = some r) : Pure Tryz.prog 135 [(.s (mU p_b))] (.t [(vs r.1), (.s (mU r.2.1)), (vi r.2.2)]) := by
 refine pure_of_ok (n := 24) (c := Tryz.f135.body.getD .skip) Tryz.tok Tryz.func135 (by kernel_rfl) rfl rfl (Nat.le_of_ble_eq_true rfl) ?_
 unfold ref01N13 at h
 refine wT [(0, .s (mU p_b))] [] Q1 Q0 rfl ?_
 refine sg ?_
 refine wT [(0, .s (mU p_b))] [] Q1 Q0 rfl ?_
 refine sg ?_
 obtain ⟨x1, hx1, h⟩ := bindS h
 refine CallOk.call (w_ref01N5 hx1) (LeL.refl _) ?_
 refine wT [(5, vi x1.1), (6, .s (mU x1.2.1)), (7, vi x1.2.2)] [] Q3 Q0 rfl ?_
 refine Ok.seq ?_
 refine sg ?_
 refine wT [(5, vi x1.1), (6, .s (mU x1.2.1)), (7, vi x1.2.2), (15, vb (x1.2.2 != 0))] [] Q4 Q0 rfl ?_
 refine Ok.cond (d := 15) (b := x1.2.2 != 0) rfl h (fun hb h => ?_) fun hb h => ?_
 ·refine sg ?_
  refine wT [(2, vs ([])), (3, .v (.slice none 0 0)), (4, vi x1.2.2)] [] Q3 Q0 rfl ?_
  refine Ok.ret ?_
  cases h
  exact (Fz.t (.cons Fz.v (.cons Fz.nil (.cons Fz.v .nil))))
 refine Ok.skip ?_
 refine Ok.seq ?_
 refine Ok.draw (m := 10) (MD := ⟨[]⟩) (CH := ⟨[]⟩) Tryz.tok Tryz.mixed (by kernel_rfl) ?_
 obtain ⟨hc1, h⟩ := chk_some h
 obtain ⟨hc2, h⟩ := chk_some h
 refine ⟨_, rfl, _, rfl, _, ⟨_, sl_nat hc1.1, Nat.zero_le _, sl_len hc1, rowsK (f := cU8) (K := 1) (fun _ => rfl) x1.2.1, _, sl_take _ _ _, rfl⟩, _, ⟨_, rfl, rfl⟩, _, rfl, _, rfl, _, ⟨_, sl_nat hc2.1, sl_len hc2, Nat.le_refl _, rowsK (f := cU8) (K := 1) (fun _ => rfl) x1.2.1, _, sl_drop _ _ _, rfl⟩, _, rfl, _, rfl, _, rfl, Q0, ?_⟩
 refine wT [(2, vs (x1.2.1.take x1.1.toNat)), (3, .s (mU (x1.2.1.drop x1.1.toNat))), (4, vi (0))] [] Q3 Q0 rfl ?_
 refine Ok.ret ?_
 cases h
 exact (Fz.t (.cons Fz.v (.cons Fz.s (.cons Fz.v .nil))))
theorem w_ref01N3 {p_b} {r} (h : ref01N9 p_b = some r) : Pure Tryz.prog 136 [(.s (mU p_b))] (.t [(.s (mI r.1)), (.s (mU r.2.1)), (vi r.2.2)]) := by
 refine pure_of_ok (n := 44) (c := Tryz.f136.body.getD .skip) Tryz.tok Tryz.func136 (by kernel_rfl) rfl rfl (Nat.le_of_ble_eq_true rfl) ?_
 unfold ref01N9 at h
 refine wT [(0, .s (mU p_b))] [] Q1 Q0 rfl ?_
 refine sg ?_
 refine wT [(0, .s (mU p_b))] [] Q1 Q0 rfl ?_
 refine sg ?_
 refine Or.inr ?_
 refine wT [(0, .s (mU p_b)), (5, .o 13)] [(13, .own 3 1 (mI ([] : List Int)))] Q2 J1 rfl ?_
 refine sg ?_
 obtain ⟨x1, hx1, h⟩ := bindS h
 refine CallOk.call (w_ref01N5 hx1) (LeL.refl _) ?_
 refine wT [(5, .o 13), (6, vi x1.1), (7, .s (mU x1.2.1)), (8, vi x1.2.2)] [(13, .own 3 1 (mI ([] : List Int)))] Q4 J1 rfl ?_
 refine Ok.seq ?_
 refine sg ?_
 refine wT [(5, .o 13), (6, vi x1.1), (7, .s (mU x1.2.1)), (8, vi x1.2.2), (21, vb (x1.2.2 != 0))] [(13, .own 3 1 (mI ([] : List Int)))] Q5 J1 rfl ?_
 refine Ok.cond (d := 21) (b := x1.2.2 != 0) rfl h (fun hb h => ?_) fun hb h => ?_
 ·refine sg ?_
  refine wT [(2, .v (.slice none 0 0)), (3, .v (.slice none 0 0)), (4, vi x1.2.2)] [] Q3 Q0 rfl ?_
  refine Ok.ret ?_
  cases h
  exact (Fz.t (.cons Fz.nil (.cons Fz.nil (.cons Fz.v .nil))))
 refine Ok.skip ?_
 refine Ok.seqj (fun v1 => ⟨Cat.tab [(5, .o 13), (7, .s (mU v1.1))], [(13, .own 3 1 (mI v1.2))]⟩) (fun v1 => ref01N11 v1 = some r) ?_ ?_
 ·refine sg ?_
  refine wT [(5, .o 13), (6, vi x1.1), (7, .s (mU x1.2.1)), (9, vi (0))] [(13, .own 3 1 (mI ([] : List Int)))] Q4 J1 rfl ?_
  refine Ok.block ?_
  refine Ok.loop (fun (s1 : (List UInt8) × Int × (List Int)) => ⟨Cat.tab [(5, .o 13), (6, vi x1.1), (7, .s (mU s1.1)), (9, vi s1.2.1)], [(13, .own 3 1 (mI s1.2.2))]⟩) (ref01N10 x1) (s0 := (x1.2.1, 0, ([] : List Int))) h (Wk.tab Q4 ⟨⟨_, rfl, .refl _⟩, Q0⟩ rfl) ?_
  intro s1 y1 hB1 hy1
  unfold ref01N10 at hB1
  refine Ok.seq ?_
  refine sg ?_
  refine wT [(5, .o 13), (6, vi x1.1), (7, .s (mU s1.1)), (9, vi s1.2.1), (25, vb (decide (s1.2.1 < x1.1)))] [(13, .own 3 1 (mI s1.2.2))] Q5 J1 rfl ?_
  refine Ok.cond (d := 25) (b := decide (s1.2.1 < x1.1)) rfl hB1 (fun hb hB1 => ?_) fun hb hB1 => ?_
  ·refine Ok.skip ?_
   refine Ok.seq ?_
   refine Ok.block ?_
   refine sg ?_
   obtain ⟨x2, hx2, hB1⟩ := bindS hB1
   refine CallOk.call (w_ref01N2 hx2) (LeL.refl _) ?_
   refine wT [(5, .o 13), (6, vi x1.1), (9, vi s1.2.1), (10, vi x2.1), (11, .s (mU x2.2.1)), (12, vi x2.2.2)] [(13, .own 3 1 (mI s1.2.2))] Q6 J1 rfl ?_
   refine Ok.seq ?_
   refine sg ?_
   refine wT [(5, .o 13), (6, vi x1.1), (9, vi s1.2.1), (10, vi x2.1), (11, .s (mU x2.2.1)), (12, vi x2.2.2), (35, vb (x2.2.2 != 0))] [(13, .own 3 1 (mI s1.2.2))] Q7 J1 rfl ?_
   refine Ok.cond (d := 35) (b := x2.2.2 != 0) rfl hB1 (fun hb hB1 => ?_) fun hb hB1 => ?_
   ·refine sg ?_
    refine wT [(2, .v (.slice none 0 0)), (3, .v (.slice none 0 0)), (4, vi x2.2.2)] [] Q3 Q0 rfl ?_
    refine Ok.ret ?_
    have hB1 := out_ret hB1 hy1
    cases hB1
    exact (Fz.t (.cons Fz.nil (.cons Fz.nil (.cons Fz.v .nil))))
   refine Ok.skip ?_
   refine sg ?_
   obtain ⟨hc1, hB1⟩ := chk_some hB1
   refine Or.inl ⟨rowsLen_map (f := Go.Cat.encI) (n := 1) (fun _ => rfl) ([x2.1]), app_b2 (f := Go.Cat.encI) (l := s1.2.2) (l' := [x2.1]) hc1, _, (List.map_append (f := Go.Cat.encI) (l₁ := s1.2.2) (l₂ := [x2.1])).symm, ?_⟩
   refine wT [(5, .o 13), (6, vi x1.1), (9, vi s1.2.1), (11, .s (mU x2.2.1))] [(13, .own 3 1 (mI (s1.2.2 ++ [x2.1])))] Q4 J1 rfl ?_
   refine rg ?_
   refine wT [(5, .o 13), (6, vi x1.1), (7, .s (mU x2.2.1)), (9, vi s1.2.1)] [(13, .own 3 1 (mI (s1.2.2 ++ [x2.1])))] Q4 J1 rfl ?_
   refine rg ?_
   obtain ⟨hc2, hB1⟩ := chk_some hB1
   refine (Or.inl ⟨hc2, ?_⟩)
   exact ⟨_, sj hB1, Wk.tab Q4 J1 rfl⟩
  refine Ok.exit ?_
  have hB1 := out_ret hB1 hy1
  exact ⟨_, hB1, Wk.tab Q2 ⟨⟨_, rfl, .refl _⟩, Q0⟩ rfl⟩
 intro v1 h
 unfold ref01N11 at h
 refine sg ?_
 refine wT [(2, .o 13), (3, .s (mU v1.1)), (4, vi (0))] [(13, .own 3 1 (mI v1.2))] Q3 J1 rfl ?_
 refine Ok.ret ?_
 cases h
 exact (Fz.t (.cons (Fz.o rfl) (.cons Fz.s (.cons Fz.v .nil))))
theorem w_ref25N2 {p_b} {r} (h : ref25N3 p_b = some r) : Pure Tryz.prog 95 [(.s (mU p_b))] (.t [(.a [(vi r.1.Id), (vi r.1.Ver), (.s (mU r.1.Data)), (.s (mI r.1.Sums))]), (vb r.2)]) := by
 refine pure_of_ok (n := 63) (c := Tryz.f95.body.getD .skip) Tryz.tok Tryz.func95 (by kernel_rfl) rfl rfl (Nat.le_of_ble_eq_true rfl) ?_
 unfold ref25N3 at h
 refine wT [(0, .s (mU p_b))] [] Q1 Q0 rfl ?_
 refine sg ?_
 refine wT [(0, .s (mU p_b)), (2, .b 2 0)] [(2, .box [vi (0), vi (0), .v (.slice none 0 0), .v (.slice none 0 0)])] Q2 J1 rfl ?_
 refine sg ?_
 obtain ⟨x1, hx1, h⟩ := bindS h
 refine CallOk.call (w_ref01N2 hx1) (LeL.refl _) ?_
 refine wT [(2, .b 2 0), (4, vi x1.1), (5, .s (mU x1.2.1)), (6, vi x1.2.2)] [(2, .box [vi (0), vi (0), .v (.slice none 0 0), .v (.slice none 0 0)])] Q4 J1 rfl ?_
 refine Ok.seq ?_
 refine sg ?_
 refine wT [(2, .b 2 0), (4, vi x1.1), (5, .s (mU x1.2.1)), (23, vb (x1.2.2 != 0))] [(2, .box [vi (0), vi (0), .v (.slice none 0 0), .v (.slice none 0 0)])] Q4 J1 rfl ?_
 refine Ok.cond (d := 23) (b := x1.2.2 != 0) rfl h (fun hb h => ?_) fun hb h => ?_
 ·refine sg ?_
  refine ⟨_, rfl, ?_⟩
  refine wT [(2, .b 2 0), (3, vb false)] [(2, .box [vi (0), vi (0), .v (.slice none 0 0), .v (.slice none 0 0)])] Q2 J1 rfl ?_
  refine Ok.ret ?_
  cases h
  exact ⟨_, rfl, (Fz.t (.cons (Fz.a (.cons Fz.v (.cons Fz.v (.cons Fz.nil (.cons Fz.nil .nil))))) (.cons Fz.v .nil)))⟩
 refine Ok.skip ?_
 refine sg ?_
 obtain ⟨x2, hx2, h⟩ := bindS h
 refine CallOk.call (w_ref01N2 hx2) (LeL.refl _) ?_
 refine wT [(2, .b 2 0), (4, vi x1.1), (7, vi x2.1), (8, .s (mU x2.2.1)), (9, vi x2.2.2)] [(2, .box [vi (0), vi (0), .v (.slice none 0 0), .v (.slice none 0 0)])] Q5 J1 rfl ?_
 refine Ok.seq ?_
 refine sg ?_
 refine wT [(2, .b 2 0), (4, vi x1.1), (7, vi x2.1), (8, .s (mU x2.2.1)), (32, vb (x2.2.2 != 0))] [(2, .box [vi (0), vi (0), .v (.slice none 0 0), .v (.slice none 0 0)])] Q5 J1 rfl ?_
 refine Ok.cond (d := 32) (b := x2.2.2 != 0) rfl h (fun hb h => ?_) fun hb h => ?_
 ·refine sg ?_
  refine ⟨_, rfl, ?_⟩
  refine wT [(2, .b 2 0), (3, vb false)] [(2, .box [vi (0), vi (0), .v (.slice none 0 0), .v (.slice none 0 0)])] Q2 J1 rfl ?_
  refine Ok.ret ?_
  cases h
  exact ⟨_, rfl, (Fz.t (.cons (Fz.a (.cons Fz.v (.cons Fz.v (.cons Fz.nil (.cons Fz.nil .nil))))) (.cons Fz.v .nil)))⟩
 refine Ok.skip ?_
 refine sg ?_
 obtain ⟨x3, hx3, h⟩ := bindS h
 refine CallOk.call (w_ref01N4 hx3) (LeL.refl _) ?_
 refine wT [(2, .b 2 0), (4, vi x1.1), (7, vi x2.1), (10, vs x3.1), (11, .s (mU x3.2.1)), (12, vi x3.2.2)] [(2, .box [vi (0), vi (0), .v (.slice none 0 0), .v (.slice none 0 0)])] Q6 J1 rfl ?_
 refine Ok.seq ?_
 refine sg ?_
 refine wT [(2, .b 2 0), (4, vi x1.1), (7, vi x2.1), (10, vs x3.1), (11, .s (mU x3.2.1)), (41, vb (x3.2.2 != 0))] [(2, .box [vi (0), vi (0), .v (.slice none 0 0), .v (.slice none 0 0)])] Q6 J1 rfl ?_
 refine Ok.cond (d := 41) (b := x3.2.2 != 0) rfl h (fun hb h => ?_) fun hb h => ?_
 ·refine sg ?_
  refine ⟨_, rfl, ?_⟩
  refine wT [(2, .b 2 0), (3, vb false)] [(2, .box [vi (0), vi (0), .v (.slice none 0 0), .v (.slice none 0 0)])] Q2 J1 rfl ?_
  refine Ok.ret ?_
  cases h
  exact ⟨_, rfl, (Fz.t (.cons (Fz.a (.cons Fz.v (.cons Fz.v (.cons Fz.nil (.cons Fz.nil .nil))))) (.cons Fz.v .nil)))⟩
 refine Ok.skip ?_
 refine sg ?_
 obtain ⟨x4, hx4, h⟩ := bindS h
 refine CallOk.call (w_ref01N3 hx4) (LeL.refl _) ?_
 refine wT [(2, .b 2 0), (4, vi x1.1), (7, vi x2.1), (10, vs x3.1), (13, .s (mI x4.1)), (14, .s (mU x4.2.1)), (15, vi x4.2.2)] [(2, .box [vi (0), vi (0), .v (.slice none 0 0), .v (.slice none 0 0)])] Q7 J1 rfl ?_
 refine Ok.seq ?_
 obtain ⟨v1, hv1, h⟩ := bindS h
 refine Ok.seqw ⟨Cat.tab [(2, .b 2 0), (4, vi x1.1), (7, vi x2.1), (10, vs x3.1), (13, .s (mI x4.1)), (55, vb v1)], [(2, .box [vi (0), vi (0), .v (.slice none 0 0), .v (.slice none 0 0)])]⟩ ?_ ?_
 ·refine rg ?_
  obtain ⟨c1, hg1, hv1⟩ := bindS hv1
  refine Br.itf hg1 (fun hb hg1 => ?_) fun hb hg1 => ?_
  ·cases hg1
   cases hv1
   exact Wk.tab Q6 J1 rfl
  refine ⟨_, List.length_map _, fun _ => ?_⟩
  cases hg1
  cases hv1
  exact Wk.tab Q6 J1 rfl
 refine Ok.cond (d := 55) (b := v1) rfl h (fun hb h => ?_) fun hb h => ?_
 ·refine sg ?_
  refine ⟨_, rfl, ?_⟩
  refine wT [(2, .b 2 0), (3, vb false)] [(2, .box [vi (0), vi (0), .v (.slice none 0 0), .v (.slice none 0 0)])] Q2 J1 rfl ?_
  refine Ok.ret ?_
  cases h
  exact ⟨_, rfl, (Fz.t (.cons (Fz.a (.cons Fz.v (.cons Fz.v (.cons Fz.nil (.cons Fz.nil .nil))))) (.cons Fz.v .nil)))⟩
 refine Ok.skip ?_
 refine sg ?_
 obtain ⟨hc1, h⟩ := chk_some h
 refine ⟨str_max hc1, _, rfl, ?_⟩
 refine wT [(2, .b 2 0), (3, vb true)] [(2, .box [vi x1.1, vi x2.1, .s (mU x3.1), .s (mI x4.1)])] Q2 J1 rfl ?_
 refine Ok.ret ?_
 cases h
 exact ⟨_, rfl, (Fz.t (.cons (Fz.imm rfl) (.cons Fz.v .nil)))⟩
theorem w_ref02N5 {p_a} {p_b} {r} (h : ref02N15 p_a p_b = some r) : Pure Tryz.prog 173 [(vi p_a), (vi p_b)] (vi r) := by
 refine pure_of_ok (n := 8) (c := Tryz.f173.body.getD .skip) Tryz.tok Tryz.func173 (by kernel_rfl) rfl rfl (Nat.le_of_ble_eq_true rfl) ?_
 unfold ref02N15 at h
 refine wT [(0, vi p_a), (1, vi p_b)] [] Q2 Q0 rfl ?_
 refine sg ?_
 refine wT [(0, vi p_a), (1, vi p_b)] [] Q2 Q0 rfl ?_
 refine sg ?_
 refine ⟨_, rfl, ?_⟩
 refine wT [(4, vi (xorK .i64 p_a p_b))] [] Q1 Q0 rfl ?_
 refine Ok.ret ?_
 cases h
 exact Fz.v
theorem w_ref02_Of {p_b} {r} (h : ref02_Of p_b = some r) : Pure Tryz.prog 141 [(.s (mU p_b))] (vi r) := by
 refine pure_of_ok (n := 34) (c := Tryz.f141.body.getD .skip) Tryz.tok Tryz.func141 (by kernel_rfl) rfl rfl (Nat.le_of_ble_eq_true rfl) ?_
 unfold ref02_Of at h
 refine wT [(0, .s (mU p_b))] [] Q1 Q0 rfl ?_
 refine sg ?_
 refine wT [(0, .s (mU p_b))] [] Q1 Q0 rfl ?_
 refine sg ?_
 refine wT [(0, .s (mU p_b)), (3, vi (4294967295))] [] Q2 Q0 rfl ?_
 obtain ⟨v1, hv1, h⟩ := bindS h
 refine Ok.seqw ⟨Cat.tab [(3, vi v1)], []⟩ ?_ ?_
 ·refine sg ?_
  refine wT [(0, .s (mU p_b)), (3, vi (4294967295)), (4, vi (0))] [] Q3 Q0 rfl ?_
  refine Ok.block ?_
  refine Ok.loop (fun (s1 : Int × Int) => ⟨Cat.tab [(0, .s (mU p_b)), (3, vi s1.1), (4, vi s1.2)], []⟩) (ref02_Of_B1 p_b) (s0 := (4294967295, 0)) hv1 (Wk.tab Q3 Q0 rfl) ?_
  intro s1 y1 hB1 hy1
  unfold ref02_Of_B1 at hB1
  refine Ok.seq ?_
  refine sg ?_
  refine ⟨_, List.length_map _, fun _ => ?_⟩
  refine wT [(0, .s (mU p_b)), (3, vi s1.1), (4, vi s1.2), (10, vb (decide (s1.2 < (p_b.length : Int))))] [] Q4 Q0 rfl ?_
  refine Ok.cond (d := 10) (b := decide (s1.2 < (p_b.length : Int))) rfl hB1 (fun hb hB1 => ?_) fun hb hB1 => ?_
  ·refine Ok.skip ?_
   obtain ⟨v2, hv2, hB1⟩ := bindS hB1
   refine Ok.seqw ⟨Cat.tab [(0, .s (mU p_b)), (3, vi v2), (4, vi s1.2)], []⟩ ?_ ?_
   ·refine Ok.block ?_
    refine sg ?_
    obtain ⟨x1, hx1, hv2⟩ := bindS hv2
    obtain ⟨x2, hx2, hv2⟩ := bindS hv2
    refine ⟨_, idx_nat hx1, _, idx_row hx1, _, rfl, _, wrap_of_u8 (k := .i64) (by decide) _, ?_⟩
    refine CallOk.call (w_ref02N5 hx2) (LeL.refl _) ?_
    refine wT [(0, .s (mU p_b)), (3, vi x2), (4, vi s1.2)] [] Q3 Q0 rfl ?_
    refine sg ?_
    refine wT [(0, .s (mU p_b)), (3, vi x2), (4, vi s1.2), (5, vi (0))] [] Q4 Q0 rfl ?_
    refine Ok.block ?_
    refine Ok.loop (fun (s2 : Int × Int) => ⟨Cat.tab [(0, .s (mU p_b)), (3, vi s2.1), (4, vi s1.2), (5, vi s2.2)], []⟩) (ref02_Of_B2) (s0 := (x2, 0)) hv2 (Wk.tab Q4 Q0 rfl) ?_
    intro s2 y2 hB2 hy2
    unfold ref02_Of_B2 at hB2
    refine Ok.seq ?_
    refine sg ?_
    refine wT [(0, .s (mU p_b)), (3, vi s2.1), (4, vi s1.2), (5, vi s2.2), (21, vb (decide (s2.2 < 8)))] [] Q5 Q0 rfl ?_
    refine Ok.cond (d := 21) (b := decide (s2.2 < 8)) rfl hB2 (fun hb hB2 => ?_) fun hb hB2 => ?_
    ·refine Ok.skip ?_
     obtain ⟨v3, hv3, hB2⟩ := bindS hB2
     refine Ok.seqw ⟨Cat.tab [(0, .s (mU p_b)), (3, vi v3), (4, vi s1.2), (5, vi s2.2)], []⟩ ?_ ?_
     ·refine Ok.block ?_
      refine sg ?_
      refine ⟨(by decide), _, rfl, ?_⟩
      refine wT [(0, .s (mU p_b)), (3, vi s2.1), (4, vi s1.2), (5, vi s2.2), (6, vb ((Int.tmod s2.1 (2)) == 1))] [] Q5 Q0 rfl ?_
      refine sg ?_
      refine ⟨(by decide), _, rfl, ?_⟩
      refine wT [(0, .s (mU p_b)), (3, vi (quoK .i64 s2.1 (2))), (4, vi s1.2), (5, vi s2.2), (6, vb ((Int.tmod s2.1 (2)) == 1))] [] Q5 Q0 rfl ?_
      refine sg ?_
      refine wT [(0, .s (mU p_b)), (3, vi (quoK .i64 s2.1 (2))), (4, vi s1.2), (5, vi s2.2), (29, vb ((Int.tmod s2.1 (2)) == 1))] [] Q5 Q0 rfl ?_
      refine Ok.cond (d := 29) (b := (Int.tmod s2.1 (2)) == 1) rfl hv3 (fun hb hv3 => ?_) fun hb hv3 => ?_
      ·refine rg ?_
       obtain ⟨x3, hx3, hv3⟩ := bindS hv3
       refine CallOk.call (w_ref02N5 hx3) (LeL.refl _) ?_
       cases hv3
       exact Wk.tab Q4 Q0 rfl
      refine Ok.skip ?_
      cases hv3
      exact Wk.tab Q4 Q0 rfl
     refine rg ?_
     obtain ⟨hc1, hB2⟩ := chk_some hB2
     refine (Or.inl ⟨hc1, ?_⟩)
     exact ⟨_, sj hB2, Wk.tab Q4 Q0 rfl⟩
    refine Ok.exit ?_
    have hB2 := out_ret hB2 hy2
    cases hB2
    exact Wk.tab Q3 Q0 rfl
   refine rg ?_
   obtain ⟨hc2, hB1⟩ := chk_some hB1
   refine (Or.inl ⟨hc2, ?_⟩)
   exact ⟨_, sj hB1, Wk.tab Q3 Q0 rfl⟩
  refine Ok.exit ?_
  have hB1 := out_ret hB1 hy1
  cases hB1
  exact Wk.tab Q1 Q0 rfl
 refine sg ?_
 obtain ⟨x4, hx4, h⟩ := bindS h
 refine CallOk.call (w_ref02N5 hx4) (LeL.refl _) ?_
 refine wT [(2, vi x4)] [] Q1 Q0 rfl ?_
 refine Ok.ret ?_
 cases h
 exact Fz.v
theorem wo_ref02N1 {p_data} {r} (h : ref02N1 p_data = some r) : POwn Tryz.prog 171 [(.s (mU p_data))] 3 1 (mI r) := by
 refine pown_of_ok (n := 24) (c := Tryz.f171.body.getD .skip) Tryz.tok Tryz.func171 (by kernel_rfl) rfl rfl (Nat.le_of_ble_eq_true rfl) ?_
 unfold ref02N1 at h
 refine wT [(0, .s (mU p_data))] [] Q1 Q0 rfl ?_
 refine sg ?_
 refine wT [(0, .s (mU p_data))] [] Q1 Q0 rfl ?_
 refine sg ?_
 refine wT [(0, .s (mU p_data)), (3, .v (.slice none 0 0))] [] Q2 Q0 rfl ?_
 obtain ⟨v1, hv1, h⟩ := bindS h
 refine Ok.seqw ⟨Cat.tab [(3, .o 22)], [(22, .own 3 1 (mI v1))]⟩ ?_ ?_
 ·refine sg ?_
  refine wT [(0, .s (mU p_data)), (3, .v (.slice none 0 0)), (4, vi (0))] [] Q3 Q0 rfl ?_
  refine Ok.block ?_
  refine Ok.loop (fun (s1 : Int × (List Int)) => ⟨Cat.tab [(0, .s (mU p_data)), (3, .o 22), (4, vi s1.1)], [(22, .own 3 1 (mI s1.2))]⟩) (ref02N2 p_data) (s0 := (0, [])) hv1 ((Wk.own0 (t := 3) (id := 22) (E := 3) (K := 1) rfl rfl).trans (Wk.tab Q3 ⟨⟨_, rfl, .refl _⟩, Q0⟩ rfl)) ?_
  intro s1 y1 hB1 hy1
  unfold ref02N2 at hB1
  refine Ok.seq ?_
  refine sg ?_
  refine ⟨_, List.length_map _, fun _ => ?_⟩
  refine wT [(0, .s (mU p_data)), (3, .o 22), (4, vi s1.1), (8, vb (decide (s1.1 < (p_data.length : Int))))] [(22, .own 3 1 (mI s1.2))] Q4 J1 rfl ?_
  refine Ok.cond (d := 8) (b := decide (s1.1 < (p_data.length : Int))) rfl hB1 (fun hb hB1 => ?_) fun hb hB1 => ?_
  ·refine Ok.skip ?_
   refine Ok.seq ?_
   refine Ok.block ?_
   refine rg ?_
   obtain ⟨hc1, hB1⟩ := chk_some hB1
   obtain ⟨hc2, hB1⟩ := chk_some hB1
   obtain ⟨x1, hx1, hB1⟩ := bindS hB1
   refine (Or.inl ⟨hc1, _, List.length_map _, fun _ => ⟨_, rfl, _, sl_nat hc2.1, _, sl_nat (sl_lh hc2), sl_le hc2, sl_len3 hc2, rowsK (f := cU8) (K := 1) (fun _ => rfl) p_data, _, sl_sub _ _ _ _, ?_⟩⟩)
   refine CallOk.call (w_ref02_Of hx1) (LeL.refl _) ?_
   obtain ⟨hc3, hB1⟩ := chk_some hB1
   refine Or.inl ⟨rowsLen_map (f := Go.Cat.encI) (n := 1) (fun _ => rfl) ([x1]), app_b2 (f := Go.Cat.encI) (l := s1.2) (l' := [x1]) hc3, _, (List.map_append (f := Go.Cat.encI) (l₁ := s1.2) (l₂ := [x1])).symm, ?_⟩
   refine wT [(0, .s (mU p_data)), (3, .o 22), (4, vi s1.1)] [(22, .own 3 1 (mI (s1.2 ++ [x1])))] Q3 J1 rfl ?_
   refine rg ?_
   obtain ⟨hc4, hB1⟩ := chk_some hB1
   refine (Or.inl ⟨hc4, ?_⟩)
   exact ⟨_, sj hB1, Wk.tab Q3 J1 rfl⟩
  refine Ok.exit ?_
  have hB1 := out_ret hB1 hy1
  cases hB1
  exact Wk.tab Q1 J1 rfl
 refine sg ?_
 refine wT [(2, .o 22)] [(22, .own 3 1 (mI v1))] Q1 J1 rfl ?_
 refine Ok.ret ?_
 cases h
 exact (.inr ⟨_, rfl, rfl⟩)
theorem w_ref02N1 {p_data} {r} (h : ref02N1 p_data = some r) : Pure Tryz.prog 171 [(.s (mU p_data))] (.s (mI r)) := (wo_ref02N1 h).pure
theorem w_ref02N3 {p_data} {p_sums} {r} (h : ref02_Check p_data p_sums = some r) : Pure Tryz.prog 137 [(.s (mU p_data)), (.s (mI p_sums))] (vi r) := by
 refine pure_of_ok (n := 43) (c := Tryz.f137.body.getD .skip) Tryz.tok Tryz.func137 (by kernel_rfl) rfl rfl (Nat.le_of_ble_eq_true rfl) ?_
 unfold ref02_Check at h
 refine wT [(0, .s (mU p_data)), (1, .s (mI p_sums))] [] Q2 Q0 rfl ?_
 refine sg ?_
 refine wT [(0, .s (mU p_data)), (1, .s (mI p_sums))] [] Q2 Q0 rfl ?_
 refine sg ?_
 obtain ⟨x1, hx1, h⟩ := bindS h
 refine CallOk.call (w_ref02N1 hx1) (LeL.refl _) ?_
 refine wT [(1, .s (mI p_sums)), (5, .s (mI x1))] [] Q2 Q0 rfl ?_
 refine Ok.seqj (fun v1 => ⟨Cat.tab [], []⟩) (fun v1 => ref02N8 v1 = some r) ?_ ?_
 ·refine sg ?_
  refine wT [(1, .s (mI p_sums)), (5, .s (mI x1)), (6, vi (0))] [] Q3 Q0 rfl ?_
  refine Ok.block ?_
  refine Ok.loop (fun (s1 : Int) => ⟨Cat.tab [(1, .s (mI p_sums)), (5, .s (mI x1)), (6, vi s1)], []⟩) (ref02N7 x1 p_sums) (s0 := 0) h (Wk.tab Q3 Q0 rfl) ?_
  intro s1 y1 hB1 hy1
  unfold ref02N7 at hB1
  refine Ok.seq ?_
  obtain ⟨v2, hv2, hB1⟩ := bindS hB1
  refine Ok.seqw ⟨Cat.tab [(1, .s (mI p_sums)), (5, .s (mI x1)), (6, vi s1), (18, vb v2)], []⟩ ?_ ?_
  ·refine rg ?_
   refine ⟨_, List.length_map _, fun _ => ?_⟩
   obtain ⟨c1, hg1, hv2⟩ := bindS hv2
   refine Br.itf hg1 (fun hb hg1 => ?_) fun hb hg1 => ?_
   ·cases hg1
    cases hv2
    exact Wk.tab Q4 Q0 rfl
   refine ⟨_, List.length_map _, fun _ => ?_⟩
   cases hg1
   cases hv2
   exact Wk.tab Q4 Q0 rfl
  refine Ok.cond (d := 18) (b := v2) rfl hB1 (fun hb hB1 => ?_) fun hb hB1 => ?_
  ·refine Ok.skip ?_
   refine Ok.seq ?_
   refine Ok.block ?_
   obtain ⟨v3, hv3, hB1⟩ := bindS hB1
   refine Ok.seqw ⟨Cat.tab [(1, .s (mI p_sums)), (5, .s (mI x1)), (6, vi s1), (41, vb v3)], []⟩ ?_ ?_
   ·refine Ok.draw (m := 21) (MD := ⟨[]⟩) (CH := ⟨[]⟩) Tryz.tok Tryz.mixed (by kernel_rfl) ?_
    refine ⟨_, rfl, _, rfl, _, ⟨_, List.length_map _, fun _ => rfl⟩, _, rfl, _, rfl, ?_⟩
    obtain ⟨c2, hg2, hv3⟩ := bindS hv3
    refine Br.itf hg2 (fun hb hg2 => ?_) fun hb hg2 => ?_
    ·cases hg2
     refine ⟨_, rfl, ?_⟩
     refine ⟨_, rfl, ?_⟩
     obtain ⟨c3, hg3, hv3⟩ := bindS hv3
     replace hg3 := iteT hg3
     cases hg3
     refine ⟨_, rfl, ?_⟩
     refine ⟨Q0, ?_⟩
     cases hv3
     exact Wk.tab Q4 Q0 rfl
    refine ⟨_, rfl, _, rfl, _, ⟨_, List.length_map _, fun _ => rfl⟩, _, rfl, ?_⟩
    cases hg2
    refine ⟨_, rfl, ?_⟩
    refine ⟨_, rfl, ?_⟩
    obtain ⟨c3, hg4, hv3⟩ := bindS hv3
    refine Br.itf hg4 (fun hb hg4 => ?_) fun hb hg4 => ?_
    ·cases hg4
     refine ⟨_, rfl, ?_⟩
     refine ⟨Q0, ?_⟩
     cases hv3
     exact Wk.tab Q4 Q0 rfl
    obtain ⟨x2, hx2, hg4⟩ := bindS hg4
    obtain ⟨x3, hx3, hg4⟩ := bindS hg4
    refine ⟨_, rfl, _, rfl, _, ⟨_, idx_nat hx2, _, idx_row hx2, rfl⟩, _, ⟨_, rfl, rfl⟩, _, rfl, _, rfl, _, ⟨_, idx_nat hx3, _, idx_row hx3, rfl⟩, _, ⟨_, rfl, rfl⟩, _, rfl, ?_⟩
    cases hg4
    refine ⟨_, rfl, ?_⟩
    refine ⟨Q0, ?_⟩
    cases hv3
    exact Wk.tab Q4 Q0 rfl
   refine Ok.cond (d := 41) (b := v3) rfl hB1 (fun hb hB1 => ?_) fun hb hB1 => ?_
   ·refine sg ?_
    refine wT [(4, vi s1)] [] Q1 Q0 rfl ?_
    refine Ok.ret ?_
    have hB1 := out_ret hB1 hy1
    cases hB1
    exact Fz.v
   refine Ok.skip ?_
   refine rg ?_
   obtain ⟨hc1, hB1⟩ := chk_some hB1
   refine (Or.inl ⟨hc1, ?_⟩)
   exact ⟨_, sj hB1, Wk.tab Q3 Q0 rfl⟩
  refine Ok.exit ?_
  have hB1 := out_ret hB1 hy1
  exact ⟨_, hB1, Wk.tab Q0 Q0 rfl⟩
 intro v1 h
 unfold ref02N8 at h
 refine sg ?_
 refine wT [(4, vi (-1))] [] Q1 Q0 rfl ?_
 refine Ok.ret ?_
 cases h
 exact Fz.v
theorem w_ref25_May {p_c} {r} (h : ref25_May p_c = some r) : Pure Tryz.prog 96 [(.a [(vi p_c.Id), (vi p_c.Ver), (.s (mU p_c.Data)), (.s (mI p_c.Sums))])] (vb r) := by
 refine pure_of_ok (n := 35) (c := Tryz.f96.body.getD .skip) Tryz.tok Tryz.func96 (by kernel_rfl) rfl rfl (Nat.le_of_ble_eq_true rfl) ?_
 unfold ref25_May at h
 refine wT [(0, .a [vi p_c.Id, vi p_c.Ver, .s (mU p_c.Data), .s (mI p_c.Sums)])] [] Q1 Q0 rfl ?_
 refine sg ?_
 refine wT [(1, .b 1 0)] [(1, .box [vi p_c.Id, vi p_c.Ver, .s (mU p_c.Data), .s (mI p_c.Sums)])] Q1 J1 rfl ?_
 obtain ⟨v1, hv1, h⟩ := bindS h
 refine Ok.seqw ⟨Cat.tab [(2, vb v1)], []⟩ ?_ ?_
 ·refine rg ?_
  refine ⟨_, rfl, ?_⟩
  obtain ⟨c1, hg1, hv1⟩ := bindS hv1
  refine Br.ite hg1 (fun hb hg1 => ?_) fun hb hg1 => ?_
  ·refine ⟨_, rfl, ?_⟩
   cases hg1
   obtain ⟨c2, hg2, hv1⟩ := bindS hv1
   refine Br.ite hg2 (fun hb hg2 => ?_) fun hb hg2 => ?_
   ·refine ⟨_, rfl, ?_⟩
    cases hg2
    obtain ⟨c3, hg3, hv1⟩ := bindS hv1
    refine Br.ite hg3 (fun hb hg3 => ?_) fun hb hg3 => ?_
    ·refine ⟨_, rfl, ?_⟩
     cases hg3
     obtain ⟨c4, hg4, hv1⟩ := bindS hv1
     refine Br.ite hg4 (fun hb hg4 => ?_) fun hb hg4 => ?_
     ·refine ⟨_, rfl, _, List.length_map _, fun _ => ?_⟩
      cases hg4
      obtain ⟨c5, hg5, hv1⟩ := bindS hv1
      refine Br.ite hg5 (fun hb hg5 => ?_) fun hb hg5 => ?_
      ·obtain ⟨x1, hx1, hg5⟩ := bindS hg5
       refine ⟨_, rfl, _, rfl, ?_⟩
       refine CallOk.call (w_ref02N3 hx1) (LeL.refl _) ?_
       cases hg5
       cases hv1
       exact Wk.tab Q1 Q0 rfl
      cases hg5
      cases hv1
      exact Wk.tab Q1 Q0 rfl
     cases hg4
     obtain ⟨c5, hg6, hv1⟩ := bindS hv1
     replace hg6 := iteF hg6
     cases hg6
     cases hv1
     exact Wk.tab Q1 Q0 rfl
    cases hg3
    obtain ⟨c4, hg7, hv1⟩ := bindS hv1
    replace hg7 := iteF hg7
    cases hg7
    obtain ⟨c5, hg8, hv1⟩ := bindS hv1
    replace hg8 := iteF hg8
    cases hg8
    cases hv1
    exact Wk.tab Q1 Q0 rfl
   cases hg2
   obtain ⟨c3, hg9, hv1⟩ := bindS hv1
   replace hg9 := iteF hg9
   cases hg9
   obtain ⟨c4, hg10, hv1⟩ := bindS hv1
   replace hg10 := iteF hg10
   cases hg10
   obtain ⟨c5, hg11, hv1⟩ := bindS hv1
   replace hg11 := iteF hg11
   cases hg11
   cases hv1
   exact Wk.tab Q1 Q0 rfl
  cases hg1
  obtain ⟨c2, hg12, hv1⟩ := bindS hv1
  replace hg12 := iteF hg12
  cases hg12
  obtain ⟨c3, hg13, hv1⟩ := bindS hv1
  replace hg13 := iteF hg13
  cases hg13
  obtain ⟨c4, hg14, hv1⟩ := bindS hv1
  replace hg14 := iteF hg14
  cases hg14
  obtain ⟨c5, hg15, hv1⟩ := bindS hv1
  replace hg15 := iteF hg15
  cases hg15
  cases hv1
  exact Wk.tab Q1 Q0 rfl
 refine Ok.ret ?_
 cases h
 exact Fz.v
theorem w_ref01_zig {p_n} {r} (h : ref01_zig p_n = some r) : Pure Tryz.prog 172 [(vi p_n)] (.v (.int .u64 r)) := by
 refine pure_of_ok (n := 14) (c := Tryz.f172.body.getD .skip) Tryz.tok Tryz.func172 (by kernel_rfl) rfl rfl (Nat.le_of_ble_eq_true rfl) ?_
 unfold ref01_zig at h
 refine wT [(0, vi p_n)] [] Q1 Q0 rfl ?_
 refine sg ?_
 refine wT [(0, vi p_n)] [] Q1 Q0 rfl ?_
 refine Ok.seq ?_
 refine sg ?_
 refine wT [(0, vi p_n), (4, vb (decide (p_n < 0)))] [] Q2 Q0 rfl ?_
 refine Ok.cond (d := 4) (b := decide (p_n < 0)) rfl h (fun hb h => ?_) fun hb h => ?_
 ·refine sg ?_
  obtain ⟨hc1, h⟩ := chk_some h
  obtain ⟨hc2, h⟩ := chk_some h
  refine (Or.inl ⟨hc1, _, InI64.wrap hc2, _, rfl, _, rfl, _, rfl, ?_⟩)
  refine wT [(2, .v (.int .u64 (IntKind.u64.wrap ((IntKind.u64.wrap (2 * (IntKind.u64.wrap (0 - (p_n + 1))))) + 1))))] [] Q1 Q0 rfl ?_
  refine Ok.ret ?_
  cases h
  exact Fz.v
 refine Ok.skip ?_
 refine sg ?_
 refine ⟨_, rfl, _, rfl, ?_⟩
 refine wT [(2, .v (.int .u64 (IntKind.u64.wrap (2 * (IntKind.u64.wrap p_n)))))] [] Q1 Q0 rfl ?_
 refine Ok.ret ?_
 cases h
 exact Fz.v
theorem wo_ref01N1 {p_n} {r} (h : ref01_Int p_n = some r) : POwn Tryz.prog 138 [(vi p_n)] 5 1 (mU r) := by
 refine pown_of_ok (n := 25) (c := Tryz.f138.body.getD .skip) Tryz.tok Tryz.func138 (by kernel_rfl) rfl rfl (Nat.le_of_ble_eq_true rfl) ?_
 unfold ref01_Int at h
 refine wT [(0, vi p_n)] [] Q1 Q0 rfl ?_
 refine sg ?_
 refine wT [(0, vi p_n)] [] Q1 Q0 rfl ?_
 refine sg ?_
 refine Or.inr ?_
 refine wT [(0, vi p_n), (3, .o 5)] [(5, .own 5 1 (mU ([] : List UInt8)))] Q2 J1 rfl ?_
 refine sg ?_
 obtain ⟨x1, hx1, h⟩ := bindS h
 refine CallOk.call (w_ref01_zig hx1) (LeL.refl _) ?_
 refine wT [(3, .o 5), (4, .v (.int .u64 x1))] [(5, .own 5 1 (mU ([] : List UInt8)))] Q2 J1 rfl ?_
 obtain ⟨v1, hv1, h⟩ := bindS h
 refine Ok.seqw ⟨Cat.tab [(3, .o 5), (4, .v (.int .u64 v1.1))], [(5, .own 5 1 (mU v1.2))]⟩ ?_ ?_
 ·refine Ok.block ?_
  refine Ok.loop (fun (s1 : Int × (List UInt8)) => ⟨Cat.tab [(3, .o 5), (4, .v (.int .u64 s1.1))], [(5, .own 5 1 (mU s1.2))]⟩) (ref01N1) (s0 := (x1, ([] : List UInt8))) hv1 (Wk.tab Q2 ⟨⟨_, rfl, .refl _⟩, Q0⟩ rfl) ?_
  intro s1 y1 hB1 hy1
  unfold ref01N1 at hB1
  refine Ok.seq ?_
  refine sg ?_
  refine wT [(3, .o 5), (4, .v (.int .u64 s1.1)), (9, vb (decide (s1.1 ≥ 128)))] [(5, .own 5 1 (mU s1.2))] Q3 J1 rfl ?_
  refine Ok.cond (d := 9) (b := decide (s1.1 ≥ 128)) rfl hB1 (fun hb hB1 => ?_) fun hb hB1 => ?_
  ·refine Ok.skip ?_
   refine Ok.block ?_
   refine sg ?_
   obtain ⟨hc1, hB1⟩ := chk_some hB1
   refine ⟨(by decide), _, rfl, _, rfl, _, toU8_wrap _, Or.inl ⟨rowsLen_map (f := cU8) (n := 1) (fun _ => rfl) ([toU8 (IntKind.u64.wrap (128 + (Int.tmod s1.1 (128))))]), app_b2 (f := cU8) (l := s1.2) (l' := [toU8 (IntKind.u64.wrap (128 + (Int.tmod s1.1 (128))))]) hc1, _, (List.map_append (f := cU8) (l₁ := s1.2) (l₂ := [toU8 (IntKind.u64.wrap (128 + (Int.tmod s1.1 (128))))])).symm, ?_⟩⟩
   refine wT [(3, .o 5), (4, .v (.int .u64 s1.1))] [(5, .own 5 1 (mU (s1.2 ++ [toU8 (IntKind.u64.wrap (128 + (Int.tmod s1.1 (128))))])))] Q2 J1 rfl ?_
   refine rg ?_
   refine ⟨(by decide), _, rfl, ?_⟩
   exact ⟨_, sj hB1, Wk.tab Q2 J1 rfl⟩
  refine Ok.exit ?_
  have hB1 := out_ret hB1 hy1
  cases hB1
  exact Wk.tab Q2 J1 rfl
 refine sg ?_
 obtain ⟨hc2, h⟩ := chk_some h
 refine ⟨_, toU8_wrap _, Or.inl ⟨rowsLen_map (f := cU8) (n := 1) (fun _ => rfl) ([toU8 v1.1]), app_b2 (f := cU8) (l := v1.2) (l' := [toU8 v1.1]) hc2, _, (List.map_append (f := cU8) (l₁ := v1.2) (l₂ := [toU8 v1.1])).symm, ?_⟩⟩
 refine wT [(3, .o 5)] [(5, .own 5 1 (mU (v1.2 ++ [toU8 v1.1])))] Q1 J1 rfl ?_
 refine sg ?_
 refine wT [(2, .o 5)] [(5, .own 5 1 (mU (v1.2 ++ [toU8 v1.1])))] Q1 J1 rfl ?_
 refine Ok.ret ?_
 cases h
 exact (.inr ⟨_, rfl, rfl⟩)
theorem w_ref01_Int {p_n} {r} (h : ref01_Int p_n = some r) : Pure Tryz.prog 138 [(vi p_n)] (.s (mU r)) := (wo_ref01N1 h).pure
theorem wo_ref01N3 {p_s} {r} (h : ref01_Str p_s = some r) : POwn Tryz.prog 139 [(vs p_s)] 5 1 (mU r) := by
 refine pown_of_ok (n := 21) (c := Tryz.f139.body.getD .skip) Tryz.tok Tryz.func139 (by kernel_rfl) rfl rfl (Nat.le_of_ble_eq_true rfl) ?_
 unfold ref01_Str at h
 refine wT [(0, vs p_s)] [] Q1 Q0 rfl ?_
 refine sg ?_
 refine wT [(0, vs p_s)] [] Q1 Q0 rfl ?_
 refine sg ?_
 obtain ⟨x1, hx1, h⟩ := bindS h
 refine ⟨_, str_size _, ?_⟩
 refine CallOk.own (D := 7) (wo_ref01N1 hx1) (LeL.refl _) rfl ?_
 refine wT [(0, vs p_s), (3, .o 7)] [(7, .own 5 1 (mU x1))] Q2 J1 rfl ?_
 obtain ⟨v1, hv1, h⟩ := bindS h
 refine Ok.seqw ⟨Cat.tab [(3, .o 7)], [(7, .own 5 1 (mU v1))]⟩ ?_ ?_
 ·refine sg ?_
  refine wT [(0, vs p_s), (3, .o 7), (4, vi (0))] [(7, .own 5 1 (mU x1))] Q3 J1 rfl ?_
  refine Ok.block ?_
  refine Ok.loop (fun (s1 : Int × (List UInt8)) => ⟨Cat.tab [(0, vs p_s), (3, .o 7), (4, vi s1.1)], [(7, .own 5 1 (mU s1.2))]⟩) (ref01N14 p_s) (s0 := (0, x1)) hv1 (Wk.tab Q3 ⟨⟨_, rfl, .refl _⟩, Q0⟩ rfl) ?_
  intro s1 y1 hB1 hy1
  unfold ref01N14 at hB1
  refine Ok.seq ?_
  refine sg ?_
  refine ⟨_, str_size _, ?_⟩
  refine wT [(0, vs p_s), (3, .o 7), (4, vi s1.1), (11, vb (decide (s1.1 < (p_s.length : Int))))] [(7, .own 5 1 (mU s1.2))] Q4 J1 rfl ?_
  refine Ok.cond (d := 11) (b := decide (s1.1 < (p_s.length : Int))) rfl hB1 (fun hb hB1 => ?_) fun hb hB1 => ?_
  ·refine Ok.skip ?_
   refine Ok.seq ?_
   refine Ok.block ?_
   refine rg ?_
   obtain ⟨x2, hx2, hB1⟩ := bindS hB1
   obtain ⟨hc1, hB1⟩ := chk_some hB1
   refine ⟨_, idx_nat hx2, _, idx_get hx2, Or.inl ⟨rowsLen_map (f := cU8) (n := 1) (fun _ => rfl) ([x2]), app_b2 (f := cU8) (l := s1.2) (l' := [x2]) hc1, _, (List.map_append (f := cU8) (l₁ := s1.2) (l₂ := [x2])).symm, ?_⟩⟩
   refine wT [(0, vs p_s), (3, .o 7), (4, vi s1.1)] [(7, .own 5 1 (mU (s1.2 ++ [x2])))] Q3 J1 rfl ?_
   refine rg ?_
   obtain ⟨hc2, hB1⟩ := chk_some hB1
   refine (Or.inl ⟨hc2, ?_⟩)
   exact ⟨_, sj hB1, Wk.tab Q3 J1 rfl⟩
  refine Ok.exit ?_
  have hB1 := out_ret hB1 hy1
  cases hB1
  exact Wk.tab Q1 J1 rfl
 refine sg ?_
 refine wT [(2, .o 7)] [(7, .own 5 1 (mU v1))] Q1 J1 rfl ?_
 refine Ok.ret ?_
 cases h
 exact (.inr ⟨_, rfl, rfl⟩)
theorem w_ref01_Str {p_s} {r} (h : ref01_Str p_s = some r) : Pure Tryz.prog 139 [(vs p_s)] (.s (mU r)) := (wo_ref01N3 h).pure
theorem wo_ref01N2 {p_l} {r} (h : ref01_Ints p_l = some r) : POwn Tryz.prog 140 [(.s (mI p_l))] 5 1 (mU r) := by
 refine pown_of_ok (n := 22) (c := Tryz.f140.body.getD .skip) Tryz.tok Tryz.func140 (by kernel_rfl) rfl rfl (Nat.le_of_ble_eq_true rfl) ?_
 unfold ref01_Ints at h
 refine wT [(0, .s (mI p_l))] [] Q1 Q0 rfl ?_
 refine sg ?_
 refine wT [(0, .s (mI p_l))] [] Q1 Q0 rfl ?_
 refine sg ?_
 obtain ⟨x1, hx1, h⟩ := bindS h
 refine ⟨_, List.length_map _, fun _ => ?_⟩
 refine CallOk.own (D := 7) (wo_ref01N1 hx1) (LeL.refl _) rfl ?_
 refine wT [(0, .s (mI p_l)), (3, .o 7)] [(7, .own 5 1 (mU x1))] Q2 J1 rfl ?_
 obtain ⟨v1, hv1, h⟩ := bindS h
 refine Ok.seqw ⟨Cat.tab [(3, .o 7)], [(7, .own 5 1 (mU v1))]⟩ ?_ ?_
 ·refine sg ?_
  refine wT [(0, .s (mI p_l)), (3, .o 7), (4, vi (0))] [(7, .own 5 1 (mU x1))] Q3 J1 rfl ?_
  refine Ok.block ?_
  refine Ok.loop (fun (s1 : Int × (List UInt8)) => ⟨Cat.tab [(0, .s (mI p_l)), (3, .o 7), (4, vi s1.1)], [(7, .own 5 1 (mU s1.2))]⟩) (ref01N3 p_l) (s0 := (0, x1)) hv1 (Wk.tab Q3 ⟨⟨_, rfl, .refl _⟩, Q0⟩ rfl) ?_
  intro s1 y1 hB1 hy1
  unfold ref01N3 at hB1
  refine Ok.seq ?_
  refine sg ?_
  refine ⟨_, List.length_map _, fun _ => ?_⟩
  refine wT [(0, .s (mI p_l)), (3, .o 7), (4, vi s1.1), (11, vb (decide (s1.1 < (p_l.length : Int))))] [(7, .own 5 1 (mU s1.2))] Q4 J1 rfl ?_
  refine Ok.cond (d := 11) (b := decide (s1.1 < (p_l.length : Int))) rfl hB1 (fun hb hB1 => ?_) fun hb hB1 => ?_
  ·refine Ok.skip ?_
   refine Ok.seq ?_
   refine Ok.block ?_
   refine rg ?_
   obtain ⟨x2, hx2, hB1⟩ := bindS hB1
   obtain ⟨x3, hx3, hB1⟩ := bindS hB1
   refine ⟨_, idx_nat hx2, _, idx_row hx2, _, rfl, ?_⟩
   refine CallOk.call (w_ref01_Int hx3) (LeL.refl _) ?_
   obtain ⟨hc1, hB1⟩ := chk_some hB1
   refine ⟨rowsLen_map (f := cU8) (n := 1) (fun _ => rfl) x3, app_b2 (f := cU8) (l := s1.2) (l' := x3) hc1, _, (List.map_append (f := cU8) (l₁ := s1.2) (l₂ := x3)).symm, ?_⟩
   refine wT [(0, .s (mI p_l)), (3, .o 7), (4, vi s1.1)] [(7, .own 5 1 (mU (s1.2 ++ x3)))] Q3 J1 rfl ?_
   refine rg ?_
   obtain ⟨hc2, hB1⟩ := chk_some hB1
   refine (Or.inl ⟨hc2, ?_⟩)
   exact ⟨_, sj hB1, Wk.tab Q3 J1 rfl⟩
  refine Ok.exit ?_
  have hB1 := out_ret hB1 hy1
  cases hB1
  exact Wk.tab Q1 J1 rfl
 refine sg ?_
 refine wT [(2, .o 7)] [(7, .own 5 1 (mU v1))] Q1 J1 rfl ?_
 refine Ok.ret ?_
 cases h
 exact (.inr ⟨_, rfl, rfl⟩)
theorem w_ref01N1 {p_l} {r} (h : ref01_Ints p_l = some r) : Pure Tryz.prog 140 [(.s (mI p_l))] (.s (mU r)) := (wo_ref01N2 h).pure
theorem wo_ref25N2 {p_c} {r} (h : ref25_Page p_c = some r) : POwn Tryz.prog 97 [(.a [(vi p_c.Id), (vi p_c.Ver), (.s (mU p_c.Data)), (.s (mI p_c.Sums))])] 5 1 (mU r) := by
 refine pown_of_ok (n := 45) (c := Tryz.f97.body.getD .skip) Tryz.tok Tryz.func97 (by kernel_rfl) rfl rfl (Nat.le_of_ble_eq_true rfl) ?_
 unfold ref25_Page at h
 refine wT [(0, .a [vi p_c.Id, vi p_c.Ver, .s (mU p_c.Data), .s (mI p_c.Sums)])] [] Q1 Q0 rfl ?_
 refine sg ?_
 refine wT [(1, .b 1 0)] [(1, .box [vi p_c.Id, vi p_c.Ver, .s (mU p_c.Data), .s (mI p_c.Sums)])] Q1 J1 rfl ?_
 refine sg ?_
 obtain ⟨x1, hx1, h⟩ := bindS h
 refine Or.inr ⟨_, rfl, ?_⟩
 refine CallOk.call (w_ref01_Int hx1) (LeL.refl _) ?_
 obtain ⟨hc1, h⟩ := chk_some h
 refine ⟨rowsLen_map (f := cU8) (n := 1) (fun _ => rfl) x1, app_b2 (f := cU8) (l := ([] : List UInt8)) (l' := x1) hc1, _, (List.map_append (f := cU8) (l₁ := ([] : List UInt8)) (l₂ := x1)).symm, ?_⟩
 refine wT [(1, .b 1 0), (3, .o 5)] [(1, .box [vi p_c.Id, vi p_c.Ver, .s (mU p_c.Data), .s (mI p_c.Sums)]), (5, .own 5 1 (mU (([] : List UInt8) ++ x1)))] Q2 J2 rfl ?_
 refine sg ?_
 obtain ⟨x2, hx2, h⟩ := bindS h
 refine ⟨_, rfl, ?_⟩
 refine CallOk.call (w_ref01_Int hx2) (LeL.refl _) ?_
 obtain ⟨hc2, h⟩ := chk_some h
 refine ⟨rowsLen_map (f := cU8) (n := 1) (fun _ => rfl) x2, app_b2 (f := cU8) (l := ([] : List UInt8) ++ x1) (l' := x2) hc2, _, (List.map_append (f := cU8) (l₁ := ([] : List UInt8) ++ x1) (l₂ := x2)).symm, ?_⟩
 refine wT [(1, .b 1 0), (3, .o 5)] [(1, .box [vi p_c.Id, vi p_c.Ver, .s (mU p_c.Data), .s (mI p_c.Sums)]), (5, .own 5 1 (mU ((([] : List UInt8) ++ x1) ++ x2)))] Q2 J2 rfl ?_
 refine sg ?_
 obtain ⟨x3, hx3, h⟩ := bindS h
 refine ⟨_, rfl, _, rfl, ?_⟩
 refine CallOk.call (w_ref01_Str hx3) (LeL.refl _) ?_
 obtain ⟨hc3, h⟩ := chk_some h
 refine ⟨rowsLen_map (f := cU8) (n := 1) (fun _ => rfl) x3, app_b2 (f := cU8) (l := (([] : List UInt8) ++ x1) ++ x2) (l' := x3) hc3, _, (List.map_append (f := cU8) (l₁ := (([] : List UInt8) ++ x1) ++ x2) (l₂ := x3)).symm, ?_⟩
 refine wT [(1, .b 1 0), (3, .o 5)] [(1, .box [vi p_c.Id, vi p_c.Ver, .s (mU p_c.Data), .s (mI p_c.Sums)]), (5, .own 5 1 (mU (((([] : List UInt8) ++ x1) ++ x2) ++ x3)))] Q2 J2 rfl ?_
 refine sg ?_
 obtain ⟨x4, hx4, h⟩ := bindS h
 refine ⟨_, rfl, ?_⟩
 refine CallOk.call (w_ref01N1 hx4) (LeL.refl _) ?_
 obtain ⟨hc4, h⟩ := chk_some h
 refine ⟨rowsLen_map (f := cU8) (n := 1) (fun _ => rfl) x4, app_b2 (f := cU8) (l := ((([] : List UInt8) ++ x1) ++ x2) ++ x3) (l' := x4) hc4, _, (List.map_append (f := cU8) (l₁ := ((([] : List UInt8) ++ x1) ++ x2) ++ x3) (l₂ := x4)).symm, ?_⟩
 refine wT [(3, .o 5)] [(5, .own 5 1 (mU ((((([] : List UInt8) ++ x1) ++ x2) ++ x3) ++ x4)))] Q1 J1 rfl ?_
 refine sg ?_
 obtain ⟨x5, hx5, h⟩ := bindS h
 refine CallOk.borrow (w_ref02_Of hx5) (.cons (Fz.o rfl) (.nil)) rfl ?_
 refine wT [(3, .o 5), (4, vi x5)] [(5, .own 5 1 (mU ((((([] : List UInt8) ++ x1) ++ x2) ++ x3) ++ x4)))] Q2 J1 rfl ?_
 refine sg ?_
 obtain ⟨hc5, h⟩ := chk_some h
 refine ⟨(by decide), _, rfl, _, toU8_wrap _, (by decide), _, rfl, (by decide), _, rfl, _, toU8_wrap _, (by decide), _, rfl, (by decide), _, rfl, _, toU8_wrap _, (by decide), _, rfl, _, toU8_wrap _, Or.inl ⟨rowsLen_map (f := cU8) (n := 1) (fun _ => rfl) ([toU8 (Int.tmod x5 (256)), toU8 (Int.tmod (quoK .i64 x5 (256)) (256)), toU8 (Int.tmod (quoK .i64 x5 (65536)) (256)), toU8 (quoK .i64 x5 (16777216))]), app_b2 (f := cU8) (l := (((([] : List UInt8) ++ x1) ++ x2) ++ x3) ++ x4) (l' := [toU8 (Int.tmod x5 (256)), toU8 (Int.tmod (quoK .i64 x5 (256)) (256)), toU8 (Int.tmod (quoK .i64 x5 (65536)) (256)), toU8 (quoK .i64 x5 (16777216))]) hc5, _, (List.map_append (f := cU8) (l₁ := (((([] : List UInt8) ++ x1) ++ x2) ++ x3) ++ x4) (l₂ := [toU8 (Int.tmod x5 (256)), toU8 (Int.tmod (quoK .i64 x5 (256)) (256)), toU8 (Int.tmod (quoK .i64 x5 (65536)) (256)), toU8 (quoK .i64 x5 (16777216))])).symm, ?_⟩⟩
 refine wT [(2, .o 5)] [(5, .own 5 1 (mU (((((([] : List UInt8) ++ x1) ++ x2) ++ x3) ++ x4) ++ [toU8 (Int.tmod x5 (256)), toU8 (Int.tmod (quoK .i64 x5 (256)) (256)), toU8 (Int.tmod (quoK .i64 x5 (65536)) (256)), toU8 (quoK .i64 x5 (16777216))])))] Q1 J1 rfl ?_
 refine Ok.ret ?_
 cases h
 exact (.inr ⟨_, rfl, rfl⟩)
theorem w_ref25N1 {p_c} {r} (h : ref25_Page p_c = some r) : Pure Tryz.prog 97 [(.a [(vi p_c.Id), (vi p_c.Ver), (.s (mU p_c.Data)), (.s (mI p_c.Sums))])] (.s (mU r)) := (wo_ref25N2 h).pure
theorem w_ref02N2 {p_a} {p_b} {r} (h : ref02_Bytes p_a p_b = some r) : Pure Tryz.prog 73 [(.s (mU p_a)), (.s (mU p_b))] (vb r) := by
 refine pure_of_ok (n := 26) (c := Tryz.f73.body.getD .skip) Tryz.tok Tryz.func73 (by kernel_rfl) rfl rfl (Nat.le_of_ble_eq_true rfl) ?_
 unfold ref02_Bytes at h
 refine wT [(0, .s (mU p_a)), (1, .s (mU p_b))] [] Q2 Q0 rfl ?_
 refine sg ?_
 refine wT [(0, .s (mU p_a)), (1, .s (mU p_b))] [] Q2 Q0 rfl ?_
 refine Ok.seq ?_
 refine sg ?_
 refine ⟨_, List.length_map _, fun _ => ⟨_, List.length_map _, fun _ => ?_⟩⟩
 refine wT [(0, .s (mU p_a)), (1, .s (mU p_b)), (10, vb ((p_a.length : Int) != (p_b.length : Int)))] [] Q3 Q0 rfl ?_
 refine Ok.cond (d := 10) (b := (p_a.length : Int) != (p_b.length : Int)) rfl h (fun hb h => ?_) fun hb h => ?_
 ·refine sg ?_
  refine wT [(4, vb false)] [] Q1 Q0 rfl ?_
  refine Ok.ret ?_
  cases h
  exact Fz.v
 refine Ok.skip ?_
 refine Ok.seqj (fun v1 => ⟨Cat.tab [], []⟩) (fun v1 => ref02N5 v1 = some r) ?_ ?_
 ·refine sg ?_
  refine wT [(0, .s (mU p_a)), (1, .s (mU p_b)), (5, vi (0))] [] Q3 Q0 rfl ?_
  refine Ok.block ?_
  refine Ok.loop (fun (s1 : Int) => ⟨Cat.tab [(0, .s (mU p_a)), (1, .s (mU p_b)), (5, vi s1)], []⟩) (ref02N4 p_a p_b) (s0 := 0) h (Wk.tab Q3 Q0 rfl) ?_
  intro s1 y1 hB1 hy1
  unfold ref02N4 at hB1
  refine Ok.seq ?_
  refine sg ?_
  refine ⟨_, List.length_map _, fun _ => ?_⟩
  refine wT [(0, .s (mU p_a)), (1, .s (mU p_b)), (5, vi s1), (14, vb (decide (s1 < (p_a.length : Int))))] [] Q4 Q0 rfl ?_
  refine Ok.cond (d := 14) (b := decide (s1 < (p_a.length : Int))) rfl hB1 (fun hb hB1 => ?_) fun hb hB1 => ?_
  ·refine Ok.skip ?_
   refine Ok.seq ?_
   refine Ok.block ?_
   refine Ok.seq ?_
   refine Ok.draw (m := 9) (MD := ⟨[]⟩) (CH := ⟨[]⟩) Tryz.tok Tryz.mixed (by kernel_rfl) ?_
   obtain ⟨x1, hx1, hB1⟩ := bindS hB1
   obtain ⟨x2, hx2, hB1⟩ := bindS hB1
   refine ⟨_, rfl, _, rfl, _, ⟨_, idx_nat hx1, _, idx_row hx1, rfl⟩, _, ⟨_, rfl, rfl⟩, _, rfl, _, rfl, _, ⟨_, idx_nat hx2, _, idx_row hx2, rfl⟩, _, ⟨_, rfl, rfl⟩, _, rfl, Q0, ?_⟩
   refine wT [(0, .s (mU p_a)), (1, .s (mU p_b)), (5, vi s1), (25, vb ((x1.toNat : Int) != (x2.toNat : Int)))] [] Q4 Q0 rfl ?_
   refine Ok.cond (d := 25) (b := (x1.toNat : Int) != (x2.toNat : Int)) rfl hB1 (fun hb hB1 => ?_) fun hb hB1 => ?_
   ·refine sg ?_
    refine wT [(4, vb false)] [] Q1 Q0 rfl ?_
    refine Ok.ret ?_
    have hB1 := out_ret hB1 hy1
    cases hB1
    exact Fz.v
   refine Ok.skip ?_
   refine rg ?_
   obtain ⟨hc1, hB1⟩ := chk_some hB1
   refine (Or.inl ⟨hc1, ?_⟩)
   exact ⟨_, sj hB1, Wk.tab Q3 Q0 rfl⟩
  refine Ok.exit ?_
  have hB1 := out_ret hB1 hy1
  exact ⟨_, hB1, Wk.tab Q0 Q0 rfl⟩
 intro v1 h
 unfold ref02N5 at h
 refine sg ?_
 refine wT [(4, vb true)] [] Q1 Q0 rfl ?_
 refine Ok.ret ?_
 cases h
 exact Fz.v
theorem w_ref25_Get {p_d} {p_id} {r} (h : ref25_Get p_d p_id = some r) : Pure Tryz.prog 60 [(.a [(.s (mA p_d.Synced)), (.s (mA p_d.Loose)), (vb p_d.Down)]), (vi p_id)] (.t [(.a [(vi r.1.Id), (vi r.1.Ver), (.s (mU r.1.Data)), (.s (mI r.1.Sums))]), (vi r.2)]) := by
 refine pure_of_ok (n := 66) (c := Tryz.f60.body.getD .skip) Tryz.tok Tryz.func60 (by kernel_rfl) rfl rfl (Nat.le_of_ble_eq_true rfl) ?_
 unfold ref25_Get at h
 refine wT [(0, .a [.s (mA p_d.Synced), .s (mA p_d.Loose), vb p_d.Down]), (1, vi p_id)] [] Q2 Q0 rfl ?_
 refine sg ?_
 refine wT [(1, vi p_id), (2, .b 2 0), (4, .b 4 0)] [(2, .box [.s (mA p_d.Synced), .s (mA p_d.Loose), vb p_d.Down]), (4, .box [vi (0), vi (0), .v (.slice none 0 0), .v (.slice none 0 0)])] Q3 J2 rfl ?_
 refine Ok.seq ?_
 obtain ⟨v1, hv1, h⟩ := bindS h
 refine Ok.seqw ⟨Cat.tab [(1, vi p_id), (2, .b 2 0), (4, .b 4 0), (15, vb v1)], [(2, .box [.s (mA p_d.Synced), .s (mA p_d.Loose), vb p_d.Down]), (4, .box [vi (0), vi (0), .v (.slice none 0 0), .v (.slice none 0 0)])]⟩ ?_ ?_
 ·refine rg ?_
  obtain ⟨c1, hg1, hv1⟩ := bindS hv1
  refine Br.itf hg1 (fun hb hg1 => ?_) fun hb hg1 => ?_
  ·cases hg1
   cases hv1
   exact Wk.tab Q4 J2 rfl
  cases hg1
  cases hv1
  exact Wk.tab Q4 J2 rfl
 refine Ok.cond (d := 15) (b := v1) rfl h (fun hb h => ?_) fun hb h => ?_
 ·refine sg ?_
  refine ⟨_, rfl, ?_⟩
  refine wT [(4, .b 4 0), (5, vi (1))] [(4, .box [vi (0), vi (0), .v (.slice none 0 0), .v (.slice none 0 0)])] Q2 J1 rfl ?_
  refine Ok.ret ?_
  cases h
  exact ⟨_, rfl, (Fz.t (.cons (Fz.a (.cons Fz.v (.cons Fz.v (.cons Fz.nil (.cons Fz.nil .nil))))) (.cons Fz.v .nil)))⟩
 refine Ok.skip ?_
 refine sg ?_
 obtain ⟨x1, hx1, h⟩ := bindS h
 refine ⟨_, rfl, ?_⟩
 refine CallOk.call (w_ref04N2 hx1) (LeL.refl _) ?_
 refine wT [(1, vi p_id), (4, .b 4 0), (6, .s (mU x1.1)), (7, vi x1.2)] [(4, .box [vi (0), vi (0), .v (.slice none 0 0), .v (.slice none 0 0)])] Q4 J1 rfl ?_
 refine Ok.seq ?_
 refine sg ?_
 refine wT [(1, vi p_id), (4, .b 4 0), (6, .s (mU x1.1)), (7, vi x1.2), (24, vb (x1.2 != 0))] [(4, .box [vi (0), vi (0), .v (.slice none 0 0), .v (.slice none 0 0)])] Q5 J1 rfl ?_
 refine Ok.cond (d := 24) (b := x1.2 != 0) rfl h (fun hb h => ?_) fun hb h => ?_
 ·refine sg ?_
  refine ⟨_, rfl, ?_⟩
  refine wT [(4, .b 4 0), (5, vi x1.2)] [(4, .box [vi (0), vi (0), .v (.slice none 0 0), .v (.slice none 0 0)])] Q2 J1 rfl ?_
  refine Ok.ret ?_
  cases h
  exact ⟨_, rfl, (Fz.t (.cons (Fz.a (.cons Fz.v (.cons Fz.v (.cons Fz.nil (.cons Fz.nil .nil))))) (.cons Fz.v .nil)))⟩
 refine Ok.skip ?_
 refine Ok.seq ?_
 refine sg ?_
 refine ⟨_, List.length_map _, fun _ => ?_⟩
 refine wT [(1, vi p_id), (4, .b 4 0), (6, .s (mU x1.1)), (29, vb ((x1.1.length : Int) == 0))] [(4, .box [vi (0), vi (0), .v (.slice none 0 0), .v (.slice none 0 0)])] Q4 J1 rfl ?_
 refine Ok.cond (d := 29) (b := (x1.1.length : Int) == 0) rfl h (fun hb h => ?_) fun hb h => ?_
 ·refine sg ?_
  refine ⟨_, rfl, ?_⟩
  refine wT [(4, .b 4 0), (5, vi (41))] [(4, .box [vi (0), vi (0), .v (.slice none 0 0), .v (.slice none 0 0)])] Q2 J1 rfl ?_
  refine Ok.ret ?_
  cases h
  exact ⟨_, rfl, (Fz.t (.cons (Fz.a (.cons Fz.v (.cons Fz.v (.cons Fz.nil (.cons Fz.nil .nil))))) (.cons Fz.v .nil)))⟩
 refine Ok.skip ?_
 refine Ok.seq ?_
 refine sg ?_
 refine ⟨_, List.length_map _, fun _ => ?_⟩
 refine wT [(1, vi p_id), (4, .b 4 0), (6, .s (mU x1.1)), (33, vb (decide ((x1.1.length : Int) < 4)))] [(4, .box [vi (0), vi (0), .v (.slice none 0 0), .v (.slice none 0 0)])] Q4 J1 rfl ?_
 refine Ok.cond (d := 33) (b := decide ((x1.1.length : Int) < 4)) rfl h (fun hb h => ?_) fun hb h => ?_
 ·refine sg ?_
  refine ⟨_, rfl, ?_⟩
  refine wT [(4, .b 4 0), (5, vi (251))] [(4, .box [vi (0), vi (0), .v (.slice none 0 0), .v (.slice none 0 0)])] Q2 J1 rfl ?_
  refine Ok.ret ?_
  cases h
  exact ⟨_, rfl, (Fz.t (.cons (Fz.a (.cons Fz.v (.cons Fz.v (.cons Fz.nil (.cons Fz.nil .nil))))) (.cons Fz.v .nil)))⟩
 refine Ok.skip ?_
 refine sg ?_
 obtain ⟨hc1, h⟩ := chk_some h
 obtain ⟨hc2, h⟩ := chk_some h
 obtain ⟨x2, hx2, h⟩ := bindS h
 refine ⟨_, List.length_map _, fun _ => (Or.inl ⟨hc1, _, sl_nat hc2.1, Nat.zero_le _, sl_len hc2, rowsK (f := cU8) (K := 1) (fun _ => rfl) x1.1, _, sl_take _ _ _, ?_⟩)⟩
 refine CallOk.call (w_ref25N2 hx2) (LeL.refl _) ?_
 refine ⟨_, rfl, ?_⟩
 refine wT [(1, vi p_id), (4, .b 4 0), (6, .s (mU x1.1)), (8, .b 8 0), (9, vb x2.2)] [(4, .box [vi (0), vi (0), .v (.slice none 0 0), .v (.slice none 0 0)]), (8, .box [vi x2.1.Id, vi x2.1.Ver, .s (mU x2.1.Data), .s (mI x2.1.Sums)])] Q5 J2 rfl ?_
 refine Ok.seq ?_
 obtain ⟨v2, hv2, h⟩ := bindS h
 refine Ok.seqw ⟨Cat.tab [(4, .b 4 0), (8, .b 8 0), (63, vb v2)], [(4, .box [vi (0), vi (0), .v (.slice none 0 0), .v (.slice none 0 0)]), (8, .box [vi x2.1.Id, vi x2.1.Ver, .s (mU x2.1.Data), .s (mI x2.1.Sums)])]⟩ ?_ ?_
 ·refine rg ?_
  obtain ⟨c2, hg2, hv2⟩ := bindS hv2
  refine Br.itf hg2 (fun hb hg2 => ?_) fun hb hg2 => ?_
  ·cases hg2
   obtain ⟨c3, hg3, hv2⟩ := bindS hv2
   replace hg3 := iteT hg3
   cases hg3
   obtain ⟨c4, hg4, hv2⟩ := bindS hv2
   replace hg4 := iteT hg4
   cases hg4
   cases hv2
   exact Wk.tab Q3 J2 rfl
  obtain ⟨x3, hx3, hg2⟩ := bindS hg2
  refine ⟨_, rfl, ?_⟩
  refine CallOk.call (w_ref25_May hx3) (LeL.refl _) ?_
  cases hg2
  obtain ⟨c3, hg5, hv2⟩ := bindS hv2
  refine Br.itf hg5 (fun hb hg5 => ?_) fun hb hg5 => ?_
  ·cases hg5
   obtain ⟨c4, hg6, hv2⟩ := bindS hv2
   replace hg6 := iteT hg6
   cases hg6
   cases hv2
   exact Wk.tab Q3 J2 rfl
  refine ⟨_, rfl, ?_⟩
  cases hg5
  obtain ⟨c4, hg7, hv2⟩ := bindS hv2
  refine Br.itf hg7 (fun hb hg7 => ?_) fun hb hg7 => ?_
  ·cases hg7
   cases hv2
   exact Wk.tab Q3 J2 rfl
  obtain ⟨x4, hx4, hg7⟩ := bindS hg7
  refine ⟨_, rfl, ?_⟩
  refine CallOk.call (w_ref25N1 hx4) (LeL.refl _) ?_
  obtain ⟨x5, hx5, hg7⟩ := bindS hg7
  refine CallOk.call (w_ref02N2 hx5) (LeL.refl _) ?_
  cases hg7
  cases hv2
  exact Wk.tab Q3 J2 rfl
 refine Ok.cond (d := 63) (b := v2) rfl h (fun hb h => ?_) fun hb h => ?_
 ·refine sg ?_
  refine ⟨_, rfl, ?_⟩
  refine wT [(4, .b 4 0), (5, vi (251))] [(4, .box [vi (0), vi (0), .v (.slice none 0 0), .v (.slice none 0 0)])] Q2 J1 rfl ?_
  refine Ok.ret ?_
  cases h
  exact ⟨_, rfl, (Fz.t (.cons (Fz.a (.cons Fz.v (.cons Fz.v (.cons Fz.nil (.cons Fz.nil .nil))))) (.cons Fz.v .nil)))⟩
 refine Ok.skip ?_
 refine sg ?_
 refine ⟨_, rfl, _, rfl, ?_⟩
 refine wT [(4, .b 4 0), (5, vi (0))] [(4, .box [vi x2.1.Id, vi x2.1.Ver, .s (mU x2.1.Data), .s (mI x2.1.Sums)])] Q2 J1 rfl ?_
 refine Ok.ret ?_
 cases h
 exact ⟨_, rfl, (Fz.t (.cons (Fz.imm rfl) (.cons Fz.v .nil)))⟩
theorem w_ref27N7 {p_disks} {p_c} {p_s} {r} (h : ref27N28 p_disks p_c p_s = some r) : Pure Tryz.prog 43 [(.s (mB p_disks)), (.a [(vi p_c.Id), (vi p_c.Ver), (.s (mI p_c.Servers))]), (vi p_s)] (vi r) := by
 refine pure_of_ok (n := 44) (c := Tryz.f43.body.getD .skip) Tryz.tok Tryz.func43 (by kernel_rfl) rfl rfl (Nat.le_of_ble_eq_true rfl) ?_
 unfold ref27N28 at h
 refine wT [(0, .s (mB p_disks)), (1, .a [vi p_c.Id, vi p_c.Ver, .s (mI p_c.Servers)]), (2, vi p_s)] [] Q3 Q0 rfl ?_
 refine sg ?_
 refine wT [(0, .s (mB p_disks)), (2, vi p_s), (4, .b 4 0)] [(4, .box [vi p_c.Id, vi p_c.Ver, .s (mI p_c.Servers)])] Q3 J1 rfl ?_
 refine Ok.seq ?_
 obtain ⟨v1, hv1, h⟩ := bindS h
 refine Ok.seqw ⟨Cat.tab [(0, .s (mB p_disks)), (2, vi p_s), (4, .b 4 0), (19, vb v1)], [(4, .box [vi p_c.Id, vi p_c.Ver, .s (mI p_c.Servers)])]⟩ ?_ ?_
 ·refine rg ?_
  refine ⟨_, List.length_map _, fun _ => ?_⟩
  obtain ⟨c1, hg1, hv1⟩ := bindS hv1
  refine Br.itf hg1 (fun hb hg1 => ?_) fun hb hg1 => ?_
  ·cases hg1
   cases hv1
   exact Wk.tab Q4 J1 rfl
  obtain ⟨x1, hx1, hg1⟩ := bindS hg1
  refine ⟨_, idx_nat hx1, _, idx_row hx1, _, rfl, ?_⟩
  cases hg1
  cases hv1
  exact Wk.tab Q4 J1 rfl
 refine Ok.cond (d := 19) (b := v1) rfl h (fun hb h => ?_) fun hb h => ?_
 ·refine sg ?_
  refine wT [(6, vi (1))] [] Q1 Q0 rfl ?_
  refine Ok.ret ?_
  cases h
  exact Fz.v
 refine Ok.skip ?_
 refine Ok.seq ?_
 refine Ok.draw2 (m := 11) (late := [9]) (MD := ⟨[]⟩) (CH := ⟨[]⟩) Tryz.tok Tryz.mixed (by kernel_rfl) ?_
 obtain ⟨x2, hx2, h⟩ := bindS h
 obtain ⟨x3, hx3, h⟩ := bindS h
 refine ⟨_, rfl, _, rfl, _, ⟨_, idx_nat hx2, _, idx_row hx2, rfl⟩, _, ⟨_, rfl, rfl⟩, _, rfl, _, ⟨_, rfl, rfl⟩, _, ⟨_, .of_pure (w_ref25_Get hx3) (LeL.refl _), rfl⟩, _, rfl, _, rfl, _, rfl, Q0, ?_⟩
 refine ⟨_, rfl, ⟨⟨_, rfl, rfl⟩, Q0⟩, ?_⟩
 refine wT [(4, .b 4 0), (7, .b 7 0), (8, vi x3.2)] [(4, .box [vi p_c.Id, vi p_c.Ver, .s (mI p_c.Servers)]), (7, .box [vi x3.1.Id, vi x3.1.Ver, .s (mU x3.1.Data), .s (mI x3.1.Sums)])] Q3 J2 rfl ?_
 refine Ok.seq ?_
 refine sg ?_
 refine wT [(4, .b 4 0), (7, .b 7 0), (8, vi x3.2), (31, vb (x3.2 == 41))] [(4, .box [vi p_c.Id, vi p_c.Ver, .s (mI p_c.Servers)]), (7, .box [vi x3.1.Id, vi x3.1.Ver, .s (mU x3.1.Data), .s (mI x3.1.Sums)])] Q4 J2 rfl ?_
 refine Ok.cond (d := 31) (b := x3.2 == 41) rfl h (fun hb h => ?_) fun hb h => ?_
 ·refine sg ?_
  refine wT [(6, vi (2))] [] Q1 Q0 rfl ?_
  refine Ok.ret ?_
  cases h
  exact Fz.v
 refine Ok.skip ?_
 refine Ok.seq ?_
 refine sg ?_
 refine wT [(4, .b 4 0), (7, .b 7 0), (33, vb (x3.2 != 0))] [(4, .box [vi p_c.Id, vi p_c.Ver, .s (mI p_c.Servers)]), (7, .box [vi x3.1.Id, vi x3.1.Ver, .s (mU x3.1.Data), .s (mI x3.1.Sums)])] Q3 J2 rfl ?_
 refine Ok.cond (d := 33) (b := x3.2 != 0) rfl h (fun hb h => ?_) fun hb h => ?_
 ·refine sg ?_
  refine wT [(6, vi (3))] [] Q1 Q0 rfl ?_
  refine Ok.ret ?_
  cases h
  exact Fz.v
 refine Ok.skip ?_
 refine Ok.seq ?_
 refine sg ?_
 refine ⟨_, rfl, _, rfl, ?_⟩
 refine wT [(4, .b 4 0), (7, .b 7 0), (38, vb (decide (x3.1.Ver < p_c.Ver)))] [(4, .box [vi p_c.Id, vi p_c.Ver, .s (mI p_c.Servers)]), (7, .box [vi x3.1.Id, vi x3.1.Ver, .s (mU x3.1.Data), .s (mI x3.1.Sums)])] Q3 J2 rfl ?_
 refine Ok.cond (d := 38) (b := decide (x3.1.Ver < p_c.Ver)) rfl h (fun hb h => ?_) fun hb h => ?_
 ·refine sg ?_
  refine wT [(6, vi (4))] [] Q1 Q0 rfl ?_
  refine Ok.ret ?_
  cases h
  exact Fz.v
 refine Ok.skip ?_
 refine Ok.seq ?_
 refine sg ?_
 refine ⟨_, rfl, _, rfl, ?_⟩
 refine wT [(43, vb (decide (x3.1.Ver > p_c.Ver)))] [] Q1 Q0 rfl ?_
 refine Ok.cond (d := 43) (b := decide (x3.1.Ver > p_c.Ver)) rfl h (fun hb h => ?_) fun hb h => ?_
 ·refine sg ?_
  refine wT [(6, vi (5))] [] Q1 Q0 rfl ?_
  refine Ok.ret ?_
  cases h
  exact Fz.v
 refine Ok.skip ?_
 refine sg ?_
 refine wT [(6, vi (0))] [] Q1 Q0 rfl ?_
 refine Ok.ret ?_
 cases h
 exact Fz.v
theorem wo_ref27N1 {p_disks} {p_c} {r} (h : ref27N1 p_disks p_c = some r) : POwn Tryz.prog 15 [(.s (mB p_disks)), (.a [(vi p_c.Id), (vi p_c.Ver), (.s (mI p_c.Servers))])] 3 1 (mI r) := by
 refine pown_of_ok (n := 32) (c := Tryz.f15.body.getD .skip) Tryz.tok Tryz.func15 (by kernel_rfl) rfl rfl (Nat.le_of_ble_eq_true rfl) ?_
 unfold ref27N1 at h
 refine wT [(0, .s (mB p_disks)), (1, .a [vi p_c.Id, vi p_c.Ver, .s (mI p_c.Servers)])] [] Q2 Q0 rfl ?_
 refine sg ?_
 refine wT [(0, .s (mB p_disks)), (3, .b 3 0)] [(3, .box [vi p_c.Id, vi p_c.Ver, .s (mI p_c.Servers)])] Q2 J1 rfl ?_
 refine sg ?_
 refine wT [(0, .s (mB p_disks)), (3, .b 3 0), (5, .v (.slice none 0 0))] [(3, .box [vi p_c.Id, vi p_c.Ver, .s (mI p_c.Servers)])] Q3 J1 rfl ?_
 obtain ⟨v1, hv1, h⟩ := bindS h
 refine Ok.seqw ⟨Cat.tab [(5, .o 30)], [(30, .own 3 1 (mI v1))]⟩ ?_ ?_
 ·refine sg ?_
  refine wT [(0, .s (mB p_disks)), (3, .b 3 0), (5, .v (.slice none 0 0)), (6, vi (0))] [(3, .box [vi p_c.Id, vi p_c.Ver, .s (mI p_c.Servers)])] Q4 J1 rfl ?_
  refine Ok.block ?_
  refine Ok.loop (fun (s1 : Int × (List Int)) => ⟨Cat.tab [(0, .s (mB p_disks)), (3, .b 3 0), (5, .o 30), (6, vi s1.1)], [(3, .box [vi p_c.Id, vi p_c.Ver, .s (mI p_c.Servers)]), (30, .own 3 1 (mI s1.2))]⟩) (ref27N2 p_c p_disks) (s0 := (0, [])) hv1 ((Wk.own0 (t := 5) (id := 30) (E := 3) (K := 1) rfl rfl).trans (Wk.tab Q4 ⟨⟨_, rfl, .refl _⟩, ⟨_, rfl, .refl _⟩, Q0⟩ rfl)) ?_
  intro s1 y1 hB1 hy1
  unfold ref27N2 at hB1
  refine Ok.seq ?_
  refine sg ?_
  refine ⟨_, rfl, _, List.length_map _, fun _ => ?_⟩
  refine wT [(0, .s (mB p_disks)), (3, .b 3 0), (5, .o 30), (6, vi s1.1), (11, vb (decide (s1.1 < (p_c.Servers.length : Int))))] [(3, .box [vi p_c.Id, vi p_c.Ver, .s (mI p_c.Servers)]), (30, .own 3 1 (mI s1.2))] Q5 J2 rfl ?_
  refine Ok.cond (d := 11) (b := decide (s1.1 < (p_c.Servers.length : Int))) rfl hB1 (fun hb hB1 => ?_) fun hb hB1 => ?_
  ·refine Ok.skip ?_
   obtain ⟨v2, hv2, hB1⟩ := bindS hB1
   refine Ok.seqw ⟨Cat.tab [(0, .s (mB p_disks)), (3, .b 3 0), (5, .o 30), (6, vi s1.1)], [(3, .box [vi p_c.Id, vi p_c.Ver, .s (mI p_c.Servers)]), (30, .own 3 1 (mI v2))]⟩ ?_ ?_
   ·refine Ok.block ?_
    refine Ok.seq ?_
    refine Ok.draw (m := 9) (MD := ⟨[]⟩) (CH := ⟨[]⟩) Tryz.tok Tryz.mixed (by kernel_rfl) ?_
    obtain ⟨x1, hx1, hv2⟩ := bindS hv2
    obtain ⟨x2, hx2, hv2⟩ := bindS hv2
    refine ⟨_, rfl, _, ⟨_, rfl, rfl⟩, _, rfl, _, ⟨_, rfl, rfl⟩, _, rfl, _, ⟨_, idx_nat hx1, _, idx_row hx1, rfl⟩, _, ⟨_, rfl, rfl⟩, _, ⟨_, .of_pure (w_ref27N7 hx2) (LeL.refl _), rfl⟩, _, rfl, Q0, ?_⟩
    refine wT [(0, .s (mB p_disks)), (3, .b 3 0), (5, .o 30), (6, vi s1.1), (22, vb (x2 == 0))] [(3, .box [vi p_c.Id, vi p_c.Ver, .s (mI p_c.Servers)]), (30, .own 3 1 (mI s1.2))] Q5 J2 rfl ?_
    refine Ok.cond (d := 22) (b := x2 == 0) rfl hv2 (fun hb hv2 => ?_) fun hb hv2 => ?_
    ·refine rg ?_
     obtain ⟨x3, hx3, hv2⟩ := bindS hv2
     obtain ⟨hc1, hv2⟩ := chk_some hv2
     refine ⟨_, rfl, _, idx_nat hx3, _, idx_row hx3, _, rfl, Or.inl ⟨rowsLen_map (f := Go.Cat.encI) (n := 1) (fun _ => rfl) ([x3]), app_b2 (f := Go.Cat.encI) (l := s1.2) (l' := [x3]) hc1, _, (List.map_append (f := Go.Cat.encI) (l₁ := s1.2) (l₂ := [x3])).symm, ?_⟩⟩
     cases hv2
     exact Wk.tab Q4 J2 rfl
    refine Ok.skip ?_
    cases hv2
    exact Wk.tab Q4 J2 rfl
   refine rg ?_
   obtain ⟨hc2, hB1⟩ := chk_some hB1
   refine (Or.inl ⟨hc2, ?_⟩)
   exact ⟨_, sj hB1, Wk.tab Q4 J2 rfl⟩
  refine Ok.exit ?_
  have hB1 := out_ret hB1 hy1
  cases hB1
  exact Wk.tab Q1 J1 rfl
 refine sg ?_
 refine wT [(4, .o 30)] [(30, .own 3 1 (mI v1))] Q1 J1 rfl ?_
 refine Ok.ret ?_
 cases h
 exact (.inr ⟨_, rfl, rfl⟩)
theorem w_ref27N1 {p_disks} {p_c} {r} (h : ref27N1 p_disks p_c = some r) : Pure Tryz.prog 15 [(.s (mB p_disks)), (.a [(vi p_c.Id), (vi p_c.Ver), (.s (mI p_c.Servers))])] (.s (mI r)) := (wo_ref27N1 h).pure
end Go.Proofs
