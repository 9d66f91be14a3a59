/- The walks of this seat beside the plain programs, part 3. No condition. -/
import Derived.Test.YtpohijpdclienaaGreatXScrubOrderEn
import Derived.Test.YtpohijpdclienaaGreatXScrubOrderWk0
import Derived.Test.YtpohijpdclienaaGreatXScrubOrderWk1
import Derived.Test.YtpohijpdclienaaGreatXScrubOrderWk2
namespace Go.Proofs
set_option linter.all false
open Go Go.Cat
variable [M : Mono]
set_option maxRecDepth 100000
theorem w_law25_Great {p_d} {r} (h : law25_Great p_d = some r) : Pure Tryz.prog 37 [(.a [(.s (List.map c_api_Page p_d.Synced)), (.s (List.map c_api_Page p_d.Loose)), (vb p_d.Down)])] (vb r) := by
 refine pure_of_ok (n := 48) (c := Tryz.f37.body.getD .skip) Tryz.tok Tryz.func37 (by kernel_rfl) rfl rfl (Nat.le_of_ble_eq_true rfl) ?_
 unfold law25_Great at h
 refine wT [(0, .a [.s (List.map c_api_Page p_d.Synced), .s (List.map c_api_Page p_d.Loose), vb p_d.Down])] [] Q1 Q0 rfl ?_
 refine Sg Tryz.tok ?_
 refine wT [(1, .b 1 0)] [(1, .box [.s (List.map c_api_Page p_d.Synced), .s (List.map c_api_Page p_d.Loose), vb p_d.Down])] Q1 J1 rfl ?_
 refine Ok.seq ?_
 obtain ⟨v1, hv1, h⟩ := bindS h
 refine Ok.seqw ⟨Cat.tab [(1, .b 1 0), (14, vb v1)], [(1, .box [.s (List.map c_api_Page p_d.Synced), .s (List.map c_api_Page p_d.Loose), vb p_d.Down])]⟩ ?_ ?_
 ·refine Ok.region Tryz.tok ?_
  refine ⟨_, rfl, _, List.length_map _, fun _ => ?_⟩
  obtain ⟨c1, hg1, hv1⟩ := bindS hv1
  refine Br.itf hg1 (fun hb hg1 => ?_) fun hb hg1 => ?_
  ·cases hg1
   cases hv1
   exact Wk.tab Q2 J1 rfl
  refine ⟨_, rfl, _, List.length_map _, fun _ => ?_⟩
  cases hg1
  cases hv1
  exact Wk.tab Q2 J1 rfl
 refine Ok.cond (d := 14) (b := v1) rfl h (fun hb h => ?_) fun hb h => ?_
 ·refine Sg Tryz.tok ?_
  refine wT [(2, vb true)] [] Q1 Q0 rfl ?_
  refine Ok.ret ?_
  cases h
  exact Fz.v
 refine Ok.skip ?_
 refine Ok.seqj (fun v2 => ⟨Cat.tab [(1, .b 1 0)], [(1, .box [.s (List.map c_api_Page p_d.Synced), .s (List.map c_api_Page p_d.Loose), vb p_d.Down])]⟩) (fun v2 => law25_Great_J1 p_d v2 = some r) ?_ ?_
 ·refine Sg Tryz.tok ?_
  refine wT [(1, .b 1 0), (3, vi (0))] [(1, .box [.s (List.map c_api_Page p_d.Synced), .s (List.map c_api_Page p_d.Loose), vb p_d.Down])] Q2 J1 rfl ?_
  refine Ok.block ?_
  refine Ok.loop (fun (s1 : Int) => ⟨Cat.tab [(1, .b 1 0), (3, vi s1)], [(1, .box [.s (List.map c_api_Page p_d.Synced), .s (List.map c_api_Page p_d.Loose), vb p_d.Down])]⟩) (law25_Great_B1 p_d) (s0 := 0) h (Wk.tab Q2 ⟨⟨_, rfl, .refl _⟩, Q0⟩ rfl) ?_
  intro s1 y1 hB1 hy1
  unfold law25_Great_B1 at hB1
  refine Ok.seq ?_
  refine Sg Tryz.tok ?_
  refine ⟨_, rfl, _, List.length_map _, fun _ => ?_⟩
  refine wT [(1, .b 1 0), (3, vi s1), (19, vb ((decide (s1 < (p_d.Synced.length : Int)))))] [(1, .box [.s (List.map c_api_Page p_d.Synced), .s (List.map c_api_Page p_d.Loose), vb p_d.Down])] Q3 J1 rfl ?_
  refine Ok.cond (d := 19) (b := decide (s1 < (p_d.Synced.length : Int))) rfl hB1 (fun hb hB1 => ?_) fun hb hB1 => ?_
  ·refine Ok.skip ?_
   refine Ok.seq ?_
   refine Ok.block ?_
   refine Sg Tryz.tok ?_
   obtain ⟨x1, hx1, hB1⟩ := bindS hB1
   refine ⟨_, rfl, _, idx_nat hx1, _, idx_row hx1, _, rfl, _, List.length_map _, fun _ => ?_⟩
   refine wT [(1, .b 1 0), (3, vi s1), (29, vb ((decide ((x1.Data.length : Int) > 200))))] [(1, .box [.s (List.map c_api_Page p_d.Synced), .s (List.map c_api_Page p_d.Loose), vb p_d.Down])] Q3 J1 rfl ?_
   refine Ok.cond (d := 29) (b := decide ((x1.Data.length : Int) > 200)) rfl hB1 (fun hb hB1 => ?_) fun hb hB1 => ?_
   ·refine Sg Tryz.tok ?_
    refine wT [(2, vb true)] [] Q1 Q0 rfl ?_
    refine Ok.ret ?_
    have hB1 := out_ret hB1 hy1
    cases hB1
    exact Fz.v
   refine Ok.skip ?_
   refine Ok.region Tryz.tok ?_
   obtain ⟨hc1, hB1⟩ := chk_some hB1
   refine (Or.inl ⟨hc1, ?_⟩)
   exact ⟨_, sj hB1, Wk.tab Q2 J1 rfl⟩
  refine Ok.exit ?_
  have hB1 := out_ret hB1 hy1
  exact ⟨_, hB1, Wk.tab Q1 ⟨⟨_, rfl, .refl _⟩, Q0⟩ rfl⟩
 intro v2 h
 unfold law25_Great_J1 at h
 refine Ok.seqj (fun v3 => ⟨Cat.tab [(1, .b 1 0)], [(1, .box [.s (List.map c_api_Page p_d.Synced), .s (List.map c_api_Page p_d.Loose), vb p_d.Down])]⟩) (fun v3 => law25_Great_J2 p_d v3 = some r) ?_ ?_
 ·refine Sg Tryz.tok ?_
  refine wT [(1, .b 1 0), (4, vi (0))] [(1, .box [.s (List.map c_api_Page p_d.Synced), .s (List.map c_api_Page p_d.Loose), vb p_d.Down])] Q2 J1 rfl ?_
  refine Ok.block ?_
  refine Ok.loop (fun (s2 : Int) => ⟨Cat.tab [(1, .b 1 0), (4, vi s2)], [(1, .box [.s (List.map c_api_Page p_d.Synced), .s (List.map c_api_Page p_d.Loose), vb p_d.Down])]⟩) (law25_Great_B2 p_d) (s0 := 0) h (Wk.tab Q2 ⟨⟨_, rfl, .refl _⟩, Q0⟩ rfl) ?_
  intro s2 y2 hB2 hy2
  unfold law25_Great_B2 at hB2
  refine Ok.seq ?_
  refine Sg Tryz.tok ?_
  refine ⟨_, rfl, _, List.length_map _, fun _ => ?_⟩
  refine wT [(1, .b 1 0), (4, vi s2), (34, vb ((decide (s2 < (p_d.Loose.length : Int)))))] [(1, .box [.s (List.map c_api_Page p_d.Synced), .s (List.map c_api_Page p_d.Loose), vb p_d.Down])] Q3 J1 rfl ?_
  refine Ok.cond (d := 34) (b := decide (s2 < (p_d.Loose.length : Int))) rfl hB2 (fun hb hB2 => ?_) fun hb hB2 => ?_
  ·refine Ok.skip ?_
   refine Ok.seq ?_
   refine Ok.block ?_
   refine Sg Tryz.tok ?_
   obtain ⟨x2, hx2, hB2⟩ := bindS hB2
   refine ⟨_, rfl, _, idx_nat hx2, _, idx_row hx2, _, rfl, _, List.length_map _, fun _ => ?_⟩
   refine wT [(1, .b 1 0), (4, vi s2), (44, vb ((decide ((x2.Data.length : Int) > 200))))] [(1, .box [.s (List.map c_api_Page p_d.Synced), .s (List.map c_api_Page p_d.Loose), vb p_d.Down])] Q3 J1 rfl ?_
   refine Ok.cond (d := 44) (b := decide ((x2.Data.length : Int) > 200)) rfl hB2 (fun hb hB2 => ?_) fun hb hB2 => ?_
   ·refine Sg Tryz.tok ?_
    refine wT [(2, vb true)] [] Q1 Q0 rfl ?_
    refine Ok.ret ?_
    have hB2 := out_ret hB2 hy2
    cases hB2
    exact Fz.v
   refine Ok.skip ?_
   refine Ok.region Tryz.tok ?_
   obtain ⟨hc2, hB2⟩ := chk_some hB2
   refine (Or.inl ⟨hc2, ?_⟩)
   exact ⟨_, sj hB2, Wk.tab Q2 J1 rfl⟩
  refine Ok.exit ?_
  have hB2 := out_ret hB2 hy2
  exact ⟨_, hB2, Wk.tab Q1 ⟨⟨_, rfl, .refl _⟩, Q0⟩ rfl⟩
 intro v3 h
 unfold law25_Great_J2 at h
 refine Sg Tryz.tok ?_
 obtain ⟨x3, hx3, h⟩ := bindS h
 refine ⟨_, rfl, ?_⟩
 refine CallOk.call (w_ref04_Right hx3) (LeL.refl _) ?_
 refine wT [(2, vb ((!x3)))] [] Q1 Q0 rfl ?_
 refine Ok.ret ?_
 cases h
 exact Fz.v
theorem w_law27_Great {p_disks} {p_l} {r} (h : law27_Great p_disks p_l = some r) : Pure Tryz.prog 10 [(.s (List.map c_api_Disk p_disks)), (.s (List.map c_api_Chain p_l))] (vb r) := by
 refine pure_of_ok (n := 39) (c := Tryz.f10.body.getD .skip) Tryz.tok Tryz.func10 (by kernel_rfl) rfl rfl (Nat.le_of_ble_eq_true rfl) ?_
 unfold law27_Great at h
 refine wT [(0, .s (List.map c_api_Disk p_disks)), (1, .s (List.map c_api_Chain p_l))] [] Q2 Q0 rfl ?_
 refine Sg Tryz.tok ?_
 refine wT [(0, .s (List.map c_api_Disk p_disks)), (1, .s (List.map c_api_Chain p_l))] [] Q2 Q0 rfl ?_
 refine Ok.seq ?_
 obtain ⟨v1, hv1, h⟩ := bindS h
 refine Ok.seqw ⟨Cat.tab [(0, .s (List.map c_api_Disk p_disks)), (1, .s (List.map c_api_Chain p_l)), (14, vb v1)], []⟩ ?_ ?_
 ·refine Ok.region Tryz.tok ?_
  refine ⟨_, List.length_map _, fun _ => ?_⟩
  obtain ⟨c1, hg1, hv1⟩ := bindS hv1
  refine Br.itf hg1 (fun hb hg1 => ?_) fun hb hg1 => ?_
  ·cases hg1
   cases hv1
   exact Wk.tab Q3 Q0 rfl
  refine ⟨_, List.length_map _, fun _ => ?_⟩
  cases hg1
  cases hv1
  exact Wk.tab Q3 Q0 rfl
 refine Ok.cond (d := 14) (b := v1) rfl h (fun hb h => ?_) fun hb h => ?_
 ·refine Sg Tryz.tok ?_
  refine wT [(4, vb true)] [] Q1 Q0 rfl ?_
  refine Ok.ret ?_
  cases h
  exact Fz.v
 refine Ok.skip ?_
 refine Ok.seqj (fun v2 => ⟨Cat.tab [(1, .s (List.map c_api_Chain p_l))], []⟩) (fun v2 => law27_Great_J1 p_l v2 = some r) ?_ ?_
 ·refine Sg Tryz.tok ?_
  refine wT [(0, .s (List.map c_api_Disk p_disks)), (1, .s (List.map c_api_Chain p_l)), (5, vi (0))] [] Q3 Q0 rfl ?_
  refine Ok.block ?_
  refine Ok.loop (fun (s1 : Int) => ⟨Cat.tab [(0, .s (List.map c_api_Disk p_disks)), (1, .s (List.map c_api_Chain p_l)), (5, vi s1)], []⟩) (law27_Great_B1 p_disks p_l) (s0 := 0) h (Wk.tab Q3 Q0 rfl) ?_
  intro s1 y1 hB1 hy1
  unfold law27_Great_B1 at hB1
  refine Ok.seq ?_
  refine Sg Tryz.tok ?_
  refine ⟨_, List.length_map _, fun _ => ?_⟩
  refine wT [(0, .s (List.map c_api_Disk p_disks)), (1, .s (List.map c_api_Chain p_l)), (5, vi s1), (18, vb ((decide (s1 < (p_disks.length : Int)))))] [] Q4 Q0 rfl ?_
  refine Ok.cond (d := 18) (b := decide (s1 < (p_disks.length : Int))) rfl hB1 (fun hb hB1 => ?_) fun hb hB1 => ?_
  ·refine Ok.skip ?_
   refine Ok.seq ?_
   refine Ok.block ?_
   refine Sg Tryz.tok ?_
   obtain ⟨x1, hx1, hB1⟩ := bindS hB1
   obtain ⟨x2, hx2, hB1⟩ := bindS hB1
   refine ⟨_, idx_nat hx1, _, idx_row hx1, _, rfl, ?_⟩
   refine CallOk.call (w_law25_Great hx2) (LeL.refl _) ?_
   refine wT [(0, .s (List.map c_api_Disk p_disks)), (1, .s (List.map c_api_Chain p_l)), (5, vi s1), (25, vb x2)] [] Q4 Q0 rfl ?_
   refine Ok.cond (d := 25) (b := x2) rfl hB1 (fun hb hB1 => ?_) fun hb hB1 => ?_
   ·refine Sg Tryz.tok ?_
    refine wT [(4, vb true)] [] Q1 Q0 rfl ?_
    refine Ok.ret ?_
    have hB1 := out_ret hB1 hy1
    cases hB1
    exact Fz.v
   refine Ok.skip ?_
   refine Ok.region Tryz.tok ?_
   obtain ⟨hc1, hB1⟩ := chk_some hB1
   refine (Or.inl ⟨hc1, ?_⟩)
   exact ⟨_, sj hB1, Wk.tab Q3 Q0 rfl⟩
  refine Ok.exit ?_
  have hB1 := out_ret hB1 hy1
  exact ⟨_, hB1, Wk.tab Q1 Q0 rfl⟩
 intro v2 h
 unfold law27_Great_J1 at h
 refine Ok.seqj (fun v3 => ⟨Cat.tab [], []⟩) (fun v3 => law27_Great_J2 v3 = some r) ?_ ?_
 ·refine Sg Tryz.tok ?_
  refine wT [(1, .s (List.map c_api_Chain p_l)), (6, vi (0))] [] Q2 Q0 rfl ?_
  refine Ok.block ?_
  refine Ok.loop (fun (s2 : Int) => ⟨Cat.tab [(1, .s (List.map c_api_Chain p_l)), (6, vi s2)], []⟩) (law27_Great_B2 p_l) (s0 := 0) h (Wk.tab Q2 Q0 rfl) ?_
  intro s2 y2 hB2 hy2
  unfold law27_Great_B2 at hB2
  refine Ok.seq ?_
  refine Sg Tryz.tok ?_
  refine ⟨_, List.length_map _, fun _ => ?_⟩
  refine wT [(1, .s (List.map c_api_Chain p_l)), (6, vi s2), (29, vb ((decide (s2 < (p_l.length : Int)))))] [] Q3 Q0 rfl ?_
  refine Ok.cond (d := 29) (b := decide (s2 < (p_l.length : Int))) rfl hB2 (fun hb hB2 => ?_) fun hb hB2 => ?_
  ·refine Ok.skip ?_
   refine Ok.seq ?_
   refine Ok.block ?_
   refine Sg Tryz.tok ?_
   obtain ⟨x3, hx3, hB2⟩ := bindS hB2
   refine ⟨_, idx_nat hx3, _, idx_row hx3, _, rfl, _, List.length_map _, fun _ => ?_⟩
   refine wT [(1, .s (List.map c_api_Chain p_l)), (6, vi s2), (38, vb ((decide ((x3.Servers.length : Int) > 12))))] [] Q3 Q0 rfl ?_
   refine Ok.cond (d := 38) (b := decide ((x3.Servers.length : Int) > 12)) rfl hB2 (fun hb hB2 => ?_) fun hb hB2 => ?_
   ·refine Sg Tryz.tok ?_
    refine wT [(4, vb true)] [] Q1 Q0 rfl ?_
    refine Ok.ret ?_
    have hB2 := out_ret hB2 hy2
    cases hB2
    exact Fz.v
   refine Ok.skip ?_
   refine Ok.region Tryz.tok ?_
   obtain ⟨hc2, hB2⟩ := chk_some hB2
   refine (Or.inl ⟨hc2, ?_⟩)
   exact ⟨_, sj hB2, Wk.tab Q2 Q0 rfl⟩
  refine Ok.exit ?_
  have hB2 := out_ret hB2 hy2
  exact ⟨_, hB2, Wk.tab Q0 Q0 rfl⟩
 intro v3 h
 unfold law27_Great_J2 at h
 refine Sg Tryz.tok ?_
 refine wT [(4, vb false)] [] Q1 Q0 rfl ?_
 refine Ok.ret ?_
 cases h
 exact Fz.v
theorem w_ref27_has {p_l} {p_x} {r} (h : ref27_has p_l p_x = some r) : Pure Tryz.prog 41 [(.s (List.map Go.Cat.encI p_l)), (vi p_x)] (vb r) := by
 refine pure_of_ok (n := 18) (c := Tryz.f41.body.getD .skip) Tryz.tok Tryz.func41 (by kernel_rfl) rfl rfl (Nat.le_of_ble_eq_true rfl) ?_
 unfold ref27_has at h
 refine wT [(0, .s (List.map Go.Cat.encI p_l)), (1, vi p_x)] [] Q2 Q0 rfl ?_
 refine Sg Tryz.tok ?_
 refine wT [(0, .s (List.map Go.Cat.encI p_l)), (1, vi p_x)] [] Q2 Q0 rfl ?_
 refine Ok.seqj (fun v1 => ⟨Cat.tab [], []⟩) (fun v1 => ref27_has_J1 v1 = some r) ?_ ?_
 ·refine Sg Tryz.tok ?_
  refine wT [(0, .s (List.map Go.Cat.encI p_l)), (1, vi p_x), (5, vi (0))] [] Q3 Q0 rfl ?_
  refine Ok.block ?_
  refine Ok.loop (fun (s1 : Int) => ⟨Cat.tab [(0, .s (List.map Go.Cat.encI p_l)), (1, vi p_x), (5, vi s1)], []⟩) (ref27_has_B1 p_l p_x) (s0 := 0) h (Wk.tab Q3 Q0 rfl) ?_
  intro s1 y1 hB1 hy1
  unfold ref27_has_B1 at hB1
  refine Ok.seq ?_
  refine Sg Tryz.tok ?_
  refine ⟨_, List.length_map _, fun _ => ?_⟩
  refine wT [(0, .s (List.map Go.Cat.encI p_l)), (1, vi p_x), (5, vi s1), (9, vb ((decide (s1 < (p_l.length : Int)))))] [] Q4 Q0 rfl ?_
  refine Ok.cond (d := 9) (b := decide (s1 < (p_l.length : Int))) rfl hB1 (fun hb hB1 => ?_) fun hb hB1 => ?_
  ·refine Ok.skip ?_
   refine Ok.seq ?_
   refine Ok.block ?_
   refine Sg Tryz.tok ?_
   obtain ⟨x1, hx1, hB1⟩ := bindS hB1
   refine ⟨_, idx_nat hx1, _, idx_row hx1, _, rfl, ?_⟩
   refine wT [(0, .s (List.map Go.Cat.encI p_l)), (1, vi p_x), (5, vi s1), (17, vb ((x1 == p_x)))] [] Q4 Q0 rfl ?_
   refine Ok.cond (d := 17) (b := x1 == p_x) rfl hB1 (fun hb hB1 => ?_) fun hb hB1 => ?_
   ·refine Sg Tryz.tok ?_
    refine wT [(4, vb true)] [] Q1 Q0 rfl ?_
    refine Ok.ret ?_
    have hB1 := out_ret hB1 hy1
    cases hB1
    exact Fz.v
   refine Ok.skip ?_
   refine Ok.region Tryz.tok ?_
   obtain ⟨hc1, hB1⟩ := chk_some hB1
   refine (Or.inl ⟨hc1, ?_⟩)
   exact ⟨_, sj hB1, Wk.tab Q3 Q0 rfl⟩
  refine Ok.exit ?_
  have hB1 := out_ret hB1 hy1
  exact ⟨_, hB1, Wk.tab Q0 Q0 rfl⟩
 intro v1 h
 unfold ref27_has_J1 at h
 refine Sg Tryz.tok ?_
 refine wT [(4, vb false)] [] Q1 Q0 rfl ?_
 refine Ok.ret ?_
 cases h
 exact Fz.v
theorem w_ref27_Right {p_l} {r} (h : ref27_Right p_l = some r) : Pure Tryz.prog 12 [(.s (List.map c_api_Chain p_l))] (vb r) := by
 refine pure_of_ok (n := 80) (c := Tryz.f12.body.getD .skip) Tryz.tok Tryz.func12 (by kernel_rfl) rfl rfl (Nat.le_of_ble_eq_true rfl) ?_
 unfold ref27_Right at h
 refine wT [(0, .s (List.map c_api_Chain p_l))] [] Q1 Q0 rfl ?_
 refine Sg Tryz.tok ?_
 refine wT [(0, .s (List.map c_api_Chain p_l))] [] Q1 Q0 rfl ?_
 refine Ok.seqj (fun v1 => ⟨Cat.tab [], []⟩) (fun v1 => ref27_Right_J1 v1 = some r) ?_ ?_
 ·refine Sg Tryz.tok ?_
  refine wT [(0, .s (List.map c_api_Chain p_l)), (3, vi (0))] [] Q2 Q0 rfl ?_
  refine Ok.block ?_
  refine Ok.loop (fun (s1 : Int) => ⟨Cat.tab [(0, .s (List.map c_api_Chain p_l)), (3, vi s1)], []⟩) (ref27_Right_B1 p_l) (s0 := 0) h (Wk.tab Q2 Q0 rfl) ?_
  intro s1 y1 hB1 hy1
  unfold ref27_Right_B1 at hB1
  refine Ok.seq ?_
  refine Sg Tryz.tok ?_
  refine ⟨_, List.length_map _, fun _ => ?_⟩
  refine wT [(0, .s (List.map c_api_Chain p_l)), (3, vi s1), (9, vb ((decide (s1 < (p_l.length : Int)))))] [] Q3 Q0 rfl ?_
  refine Ok.cond (d := 9) (b := decide (s1 < (p_l.length : Int))) rfl hB1 (fun hb hB1 => ?_) fun hb hB1 => ?_
  ·refine Ok.skip ?_
   refine Ok.seqj (fun v2 => ⟨Cat.tab [(0, .s (List.map c_api_Chain p_l)), (3, vi s1)], []⟩) (fun v2 => ref27_Right_J2 s1 v2 = some y1) ?_ ?_
   ·refine Ok.block ?_
    refine Sg Tryz.tok ?_
    obtain ⟨x1, hx1, hB1⟩ := bindS hB1
    refine ⟨_, idx_nat hx1, _, idx_row hx1, _, rfl, _, rfl, ?_⟩
    refine wT [(0, .s (List.map c_api_Chain p_l)), (3, vi s1), (4, .b 4 0)] [(4, .box [vi x1.Id, vi x1.Ver, .s (List.map Go.Cat.encI x1.Servers)])] Q3 J1 rfl ?_
    refine Ok.seq ?_
    obtain ⟨v3, hv3, hB1⟩ := bindS hB1
    refine Ok.seqw ⟨Cat.tab [(0, .s (List.map c_api_Chain p_l)), (3, vi s1), (4, .b 4 0), (54, vb v3)], [(4, .box [vi x1.Id, vi x1.Ver, .s (List.map Go.Cat.encI x1.Servers)])]⟩ ?_ ?_
    ·refine Ok.draw (m := 39) (MD := ⟨[]⟩) (CH := ⟨[]⟩) Tryz.tok Tryz.mixed (by kernel_rfl) ?_
     refine ⟨_, rfl, _, ⟨_, rfl, rfl⟩, _, rfl, _, rfl, ?_⟩
     obtain ⟨c1, hg1, hv3⟩ := bindS hv3
     refine Br.itf hg1 (fun hb hg1 => ?_) fun hb hg1 => ?_
     ·cases hg1
      refine ⟨_, rfl, ?_⟩
      refine ⟨_, rfl, ?_⟩
      obtain ⟨c2, hg2, hv3⟩ := bindS hv3
      replace hg2 := iteT hg2
      cases hg2
      refine ⟨_, rfl, ?_⟩
      refine ⟨_, rfl, ?_⟩
      obtain ⟨c3, hg3, hv3⟩ := bindS hv3
      replace hg3 := iteT hg3
      cases hg3
      refine ⟨_, rfl, ?_⟩
      refine ⟨_, rfl, ?_⟩
      obtain ⟨c4, hg4, hv3⟩ := bindS hv3
      replace hg4 := iteT hg4
      cases hg4
      refine ⟨_, rfl, ?_⟩
      refine ⟨_, rfl, ?_⟩
      obtain ⟨c6, hg5, hv3⟩ := bindS hv3
      replace hg5 := iteT hg5
      cases hg5
      refine ⟨_, rfl, ?_⟩
      refine ⟨Q0, ?_⟩
      cases hv3
      exact Wk.tab Q4 J1 rfl
     refine ⟨_, rfl, _, ⟨_, rfl, rfl⟩, _, rfl, ?_⟩
     cases hg1
     refine ⟨_, rfl, ?_⟩
     refine ⟨_, rfl, ?_⟩
     obtain ⟨c2, hg6, hv3⟩ := bindS hv3
     refine Br.itf hg6 (fun hb hg6 => ?_) fun hb hg6 => ?_
     ·cases hg6
      refine ⟨_, rfl, ?_⟩
      refine ⟨_, rfl, ?_⟩
      obtain ⟨c3, hg7, hv3⟩ := bindS hv3
      replace hg7 := iteT hg7
      cases hg7
      refine ⟨_, rfl, ?_⟩
      refine ⟨_, rfl, ?_⟩
      obtain ⟨c4, hg8, hv3⟩ := bindS hv3
      replace hg8 := iteT hg8
      cases hg8
      refine ⟨_, rfl, ?_⟩
      refine ⟨_, rfl, ?_⟩
      obtain ⟨c6, hg9, hv3⟩ := bindS hv3
      replace hg9 := iteT hg9
      cases hg9
      refine ⟨_, rfl, ?_⟩
      refine ⟨Q0, ?_⟩
      cases hv3
      exact Wk.tab Q4 J1 rfl
     refine ⟨_, rfl, _, ⟨_, rfl, rfl⟩, _, rfl, ?_⟩
     cases hg6
     refine ⟨_, rfl, ?_⟩
     refine ⟨_, rfl, ?_⟩
     obtain ⟨c3, hg10, hv3⟩ := bindS hv3
     refine Br.itf hg10 (fun hb hg10 => ?_) fun hb hg10 => ?_
     ·cases hg10
      refine ⟨_, rfl, ?_⟩
      refine ⟨_, rfl, ?_⟩
      obtain ⟨c4, hg11, hv3⟩ := bindS hv3
      replace hg11 := iteT hg11
      cases hg11
      refine ⟨_, rfl, ?_⟩
      refine ⟨_, rfl, ?_⟩
      obtain ⟨c6, hg12, hv3⟩ := bindS hv3
      replace hg12 := iteT hg12
      cases hg12
      refine ⟨_, rfl, ?_⟩
      refine ⟨Q0, ?_⟩
      cases hv3
      exact Wk.tab Q4 J1 rfl
     refine ⟨_, rfl, _, ⟨_, rfl, rfl⟩, _, rfl, ?_⟩
     cases hg10
     refine ⟨_, rfl, ?_⟩
     refine ⟨_, rfl, ?_⟩
     obtain ⟨c4, hg13, hv3⟩ := bindS hv3
     refine Br.itf hg13 (fun hb hg13 => ?_) fun hb hg13 => ?_
     ·cases hg13
      refine ⟨_, rfl, ?_⟩
      refine ⟨_, rfl, ?_⟩
      obtain ⟨c6, hg14, hv3⟩ := bindS hv3
      replace hg14 := iteT hg14
      cases hg14
      refine ⟨_, rfl, ?_⟩
      refine ⟨Q0, ?_⟩
      cases hv3
      exact Wk.tab Q4 J1 rfl
     refine ⟨_, rfl, _, ⟨_, rfl, rfl⟩, _, ⟨_, List.length_map _, fun _ => rfl⟩, _, rfl, ?_⟩
     cases hg13
     refine ⟨_, rfl, ?_⟩
     refine ⟨_, rfl, ?_⟩
     obtain ⟨c6, hg15, hv3⟩ := bindS hv3
     refine Br.itf hg15 (fun hb hg15 => ?_) fun hb hg15 => ?_
     ·cases hg15
      refine ⟨_, rfl, ?_⟩
      refine ⟨Q0, ?_⟩
      cases hv3
      exact Wk.tab Q4 J1 rfl
     refine ⟨_, rfl, _, rfl, _, rfl, ?_⟩
     obtain ⟨c5, hg16, hg15⟩ := bindS hg15
     refine Br.ite hg16 (fun hb hg16 => ?_) fun hb hg16 => ?_
     ·obtain ⟨hc1, hg16⟩ := chk_some hg16
      obtain ⟨x2, hx2, hg16⟩ := bindS hg16
      refine ⟨_, rfl, _, rfl, _, Or.inl ⟨hc1, rfl⟩, _, ⟨_, idx_nat hx2, _, idx_row hx2, rfl⟩, _, rfl, _, ⟨_, rfl, rfl⟩, _, rfl, _, ⟨_, rfl, rfl⟩, _, rfl, ?_⟩
      cases hg16
      refine ⟨_, rfl, ?_⟩
      cases hg15
      refine ⟨_, rfl, ?_⟩
      refine ⟨Q0, ?_⟩
      cases hv3
      exact Wk.tab Q4 J1 rfl
     cases hg16
     refine ⟨_, rfl, ?_⟩
     cases hg15
     refine ⟨_, rfl, ?_⟩
     refine ⟨Q0, ?_⟩
     cases hv3
     exact Wk.tab Q4 J1 rfl
    refine Ok.cond (d := 54) (b := v3) rfl hB1 (fun hb hB1 => ?_) fun hb hB1 => ?_
    ·refine Sg Tryz.tok ?_
     refine wT [(2, vb false)] [] Q1 Q0 rfl ?_
     refine Ok.ret ?_
     have hB1 := out_ret hB1 hy1
     cases hB1
     exact Fz.v
    refine Ok.skip ?_
    refine Sg Tryz.tok ?_
    refine wT [(0, .s (List.map c_api_Chain p_l)), (3, vi s1), (4, .b 4 0), (5, vi (0))] [(4, .box [vi x1.Id, vi x1.Ver, .s (List.map Go.Cat.encI x1.Servers)])] Q4 J1 rfl ?_
    refine Ok.block ?_
    refine Ok.loop (fun (s2 : Int) => ⟨Cat.tab [(0, .s (List.map c_api_Chain p_l)), (3, vi s1), (4, .b 4 0), (5, vi s2)], [(4, .box [vi x1.Id, vi x1.Ver, .s (List.map Go.Cat.encI x1.Servers)])]⟩) (ref27_Right_B2 x1 s1) (s0 := 0) hB1 (Wk.tab Q4 ⟨⟨_, rfl, .refl _⟩, Q0⟩ rfl) ?_
    intro s2 y2 hB2 hy2
    unfold ref27_Right_B2 at hB2
    refine Ok.seq ?_
    refine Sg Tryz.tok ?_
    refine ⟨_, rfl, _, List.length_map _, fun _ => ?_⟩
    refine wT [(0, .s (List.map c_api_Chain p_l)), (3, vi s1), (4, .b 4 0), (5, vi s2), (59, vb ((decide (s2 < (x1.Servers.length : Int)))))] [(4, .box [vi x1.Id, vi x1.Ver, .s (List.map Go.Cat.encI x1.Servers)])] Q5 J1 rfl ?_
    refine Ok.cond (d := 59) (b := decide (s2 < (x1.Servers.length : Int))) rfl hB2 (fun hb hB2 => ?_) fun hb hB2 => ?_
    ·refine Ok.skip ?_
     refine Ok.seq ?_
     refine Ok.block ?_
     obtain ⟨v4, hv4, hB2⟩ := bindS hB2
     refine Ok.seqw ⟨Cat.tab [(0, .s (List.map c_api_Chain p_l)), (3, vi s1), (4, .b 4 0), (5, vi s2), (79, vb v4)], [(4, .box [vi x1.Id, vi x1.Ver, .s (List.map Go.Cat.encI x1.Servers)])]⟩ ?_ ?_
     ·refine Ok.draw (m := 18) (MD := ⟨[]⟩) (CH := ⟨[]⟩) Tryz.tok Tryz.mixed (by kernel_rfl) ?_
      obtain ⟨x3, hx3, hv4⟩ := bindS hv4
      refine ⟨_, rfl, _, ⟨_, rfl, rfl⟩, _, rfl, _, ⟨_, idx_nat hx3, _, idx_row hx3, rfl⟩, _, ⟨_, rfl, rfl⟩, _, rfl, _, rfl, ?_⟩
      obtain ⟨c7, hg17, hv4⟩ := bindS hv4
      refine Br.itf hg17 (fun hb hg17 => ?_) fun hb hg17 => ?_
      ·cases hg17
       refine ⟨_, rfl, ?_⟩
       refine ⟨Q0, ?_⟩
       cases hv4
       exact Wk.tab Q5 J1 rfl
      obtain ⟨hc2, hg17⟩ := chk_some hg17
      obtain ⟨x4, hx4, hg17⟩ := bindS hg17
      obtain ⟨x5, hx5, hg17⟩ := bindS hg17
      refine ⟨_, rfl, _, ⟨_, rfl, rfl⟩, _, rfl, _, ⟨_, sl_nat hc2.1, Nat.zero_le _, sl_len hc2, rowsK (f := Go.Cat.encI) (K := 1) (fun _ => rfl) x1.Servers, _, sl_take _ _ _, rfl⟩, _, rfl, _, ⟨_, rfl, rfl⟩, _, rfl, _, ⟨_, idx_nat hx4, _, idx_row hx4, rfl⟩, _, ⟨_, rfl, rfl⟩, _, ⟨_, .of_pure (w_ref27_has hx5) (LeL.refl _), rfl⟩, ?_⟩
      cases hg17
      refine ⟨_, rfl, ?_⟩
      refine ⟨Q0, ?_⟩
      cases hv4
      exact Wk.tab Q5 J1 rfl
     refine Ok.cond (d := 79) (b := v4) rfl hB2 (fun hb hB2 => ?_) fun hb hB2 => ?_
     ·refine Sg Tryz.tok ?_
      refine wT [(2, vb false)] [] Q1 Q0 rfl ?_
      refine Ok.ret ?_
      have hB2 := out_ret hB2 hy2
      have hB2 := out_ret hB2 hy1
      cases hB2
      exact Fz.v
     refine Ok.skip ?_
     refine Ok.region Tryz.tok ?_
     obtain ⟨hc3, hB2⟩ := chk_some hB2
     refine (Or.inl ⟨hc3, ?_⟩)
     exact ⟨_, sj hB2, Wk.tab Q4 J1 rfl⟩
    refine Ok.exit ?_
    have hB2 := out_ret hB2 hy2
    exact ⟨_, hB2, Wk.tab Q2 Q0 rfl⟩
   intro v2 hB1
   unfold ref27_Right_J2 at hB1
   refine Ok.region Tryz.tok ?_
   obtain ⟨hc4, hB1⟩ := chk_some hB1
   refine (Or.inl ⟨hc4, ?_⟩)
   exact ⟨_, sj hB1, Wk.tab Q2 Q0 rfl⟩
  refine Ok.exit ?_
  have hB1 := out_ret hB1 hy1
  exact ⟨_, hB1, Wk.tab Q0 Q0 rfl⟩
 intro v1 h
 unfold ref27_Right_J1 at h
 refine Sg Tryz.tok ?_
 refine wT [(2, vb true)] [] Q1 Q0 rfl ?_
 refine Ok.ret ?_
 cases h
 exact Fz.v
theorem w_law27_in {p_l} {p_x} {r} (h : law27_in p_l p_x = some r) : Pure Tryz.prog 31 [(.s (List.map Go.Cat.encI p_l)), (vi p_x)] (vb r) := by
 refine pure_of_ok (n := 18) (c := Tryz.f31.body.getD .skip) Tryz.tok Tryz.func31 (by kernel_rfl) rfl rfl (Nat.le_of_ble_eq_true rfl) ?_
 unfold law27_in at h
 refine wT [(0, .s (List.map Go.Cat.encI p_l)), (1, vi p_x)] [] Q2 Q0 rfl ?_
 refine Sg Tryz.tok ?_
 refine wT [(0, .s (List.map Go.Cat.encI p_l)), (1, vi p_x)] [] Q2 Q0 rfl ?_
 refine Ok.seqj (fun v1 => ⟨Cat.tab [], []⟩) (fun v1 => law27_in_J1 v1 = some r) ?_ ?_
 ·refine Sg Tryz.tok ?_
  refine wT [(0, .s (List.map Go.Cat.encI p_l)), (1, vi p_x), (5, vi (0))] [] Q3 Q0 rfl ?_
  refine Ok.block ?_
  refine Ok.loop (fun (s1 : Int) => ⟨Cat.tab [(0, .s (List.map Go.Cat.encI p_l)), (1, vi p_x), (5, vi s1)], []⟩) (law27_in_B1 p_l p_x) (s0 := 0) h (Wk.tab Q3 Q0 rfl) ?_
  intro s1 y1 hB1 hy1
  unfold law27_in_B1 at hB1
  refine Ok.seq ?_
  refine Sg Tryz.tok ?_
  refine ⟨_, List.length_map _, fun _ => ?_⟩
  refine wT [(0, .s (List.map Go.Cat.encI p_l)), (1, vi p_x), (5, vi s1), (9, vb ((decide (s1 < (p_l.length : Int)))))] [] Q4 Q0 rfl ?_
  refine Ok.cond (d := 9) (b := decide (s1 < (p_l.length : Int))) rfl hB1 (fun hb hB1 => ?_) fun hb hB1 => ?_
  ·refine Ok.skip ?_
   refine Ok.seq ?_
   refine Ok.block ?_
   refine Sg Tryz.tok ?_
   obtain ⟨x1, hx1, hB1⟩ := bindS hB1
   refine ⟨_, idx_nat hx1, _, idx_row hx1, _, rfl, ?_⟩
   refine wT [(0, .s (List.map Go.Cat.encI p_l)), (1, vi p_x), (5, vi s1), (17, vb ((x1 == p_x)))] [] Q4 Q0 rfl ?_
   refine Ok.cond (d := 17) (b := x1 == p_x) rfl hB1 (fun hb hB1 => ?_) fun hb hB1 => ?_
   ·refine Sg Tryz.tok ?_
    refine wT [(4, vb true)] [] Q1 Q0 rfl ?_
    refine Ok.ret ?_
    have hB1 := out_ret hB1 hy1
    cases hB1
    exact Fz.v
   refine Ok.skip ?_
   refine Ok.region Tryz.tok ?_
   obtain ⟨hc1, hB1⟩ := chk_some hB1
   refine (Or.inl ⟨hc1, ?_⟩)
   exact ⟨_, sj hB1, Wk.tab Q3 Q0 rfl⟩
  refine Ok.exit ?_
  have hB1 := out_ret hB1 hy1
  exact ⟨_, hB1, Wk.tab Q0 Q0 rfl⟩
 intro v1 h
 unfold law27_in_J1 at h
 refine Sg Tryz.tok ?_
 refine wT [(4, vb false)] [] Q1 Q0 rfl ?_
 refine Ok.ret ?_
 cases h
 exact Fz.v
theorem w_law27_ScrubOrder [Off] {p_disks} {p_l} {r} (h : law27_ScrubOrder p_disks p_l = some r) : Pure Tryz.prog 8 [(.s (List.map c_api_Disk p_disks)), (.s (List.map c_api_Chain p_l))] (vb r) := by
 refine pure_of_ok (n := 179) (c := Tryz.f8.body.getD .skip) Tryz.tok Tryz.func8 (by kernel_rfl) rfl rfl (Nat.le_of_ble_eq_true rfl) ?_
 unfold law27_ScrubOrder at h
 refine wT [(0, .s (List.map c_api_Disk p_disks)), (1, .s (List.map c_api_Chain p_l))] [] Q2 Q0 rfl ?_
 refine Sg Tryz.tok ?_
 refine wT [(0, .s (List.map c_api_Disk p_disks)), (1, .s (List.map c_api_Chain p_l))] [] Q2 Q0 rfl ?_
 refine Sg Tryz.tok ?_
 obtain ⟨x1, hx1, h⟩ := bindS h
 refine CallOk.call (w_law27_head hx1) (LeL.refl _) ?_
 refine wT [(0, .s (List.map c_api_Disk p_disks)), (1, .s (List.map c_api_Chain p_l)), (5, vb x1)] [] Q3 Q0 rfl ?_
 refine Ok.seq ?_
 obtain ⟨v1, hv1, h⟩ := bindS h
 refine Ok.seqw ⟨Cat.tab [(0, .s (List.map c_api_Disk p_disks)), (1, .s (List.map c_api_Chain p_l)), (5, vb x1), (22, vb v1)], []⟩ ?_ ?_
 ·refine Ok.region Tryz.tok ?_
  obtain ⟨x2, hx2, hv1⟩ := bindS hv1
  refine CallOk.call (w_law27_Great hx2) (LeL.refl _) ?_
  obtain ⟨c1, hg1, hv1⟩ := bindS hv1
  refine Br.itf hg1 (fun hb hg1 => ?_) fun hb hg1 => ?_
  ·cases hg1
   cases hv1
   exact Wk.tab Q4 Q0 rfl
  obtain ⟨x3, hx3, hg1⟩ := bindS hg1
  refine CallOk.call (w_ref27_Right hx3) (LeL.refl _) ?_
  cases hg1
  cases hv1
  exact Wk.tab Q4 Q0 rfl
 refine Ok.cond (d := 22) (b := v1) rfl h (fun hb h => ?_) fun hb h => ?_
 ·refine Sg Tryz.tok ?_
  refine wT [(4, vb x1)] [] Q1 Q0 rfl ?_
  refine Ok.ret ?_
  cases h
  exact Fz.v
 refine Ok.skip ?_
 refine Sg Tryz.tok ?_
 obtain ⟨x4, hx4, h⟩ := bindS h
 refine CallOk.call (w_scrub_Plan hx4) (LeL.refl _) ?_
 refine wT [(0, .s (List.map c_api_Disk p_disks)), (1, .s (List.map c_api_Chain p_l)), (5, vb x1), (6, .s (List.map c_api_Job x4.1)), (7, .s (List.map Go.Cat.encI x4.2))] [] Q5 Q0 rfl ?_
 refine Ok.seqj (fun v2 => ⟨Cat.tab [(0, .s (List.map c_api_Disk p_disks)), (1, .s (List.map c_api_Chain p_l)), (5, vb x1), (7, .s (List.map Go.Cat.encI x4.2))], []⟩) (fun v2 => law27_ScrubOrder_J1 p_l x4 p_disks x1 v2 = some r) ?_ ?_
 ·refine Sg Tryz.tok ?_
  refine wT [(0, .s (List.map c_api_Disk p_disks)), (1, .s (List.map c_api_Chain p_l)), (5, vb x1), (6, .s (List.map c_api_Job x4.1)), (7, .s (List.map Go.Cat.encI x4.2)), (8, vi (0))] [] Q6 Q0 rfl ?_
  refine Ok.block ?_
  refine Ok.loop (fun (s1 : Int) => ⟨Cat.tab [(0, .s (List.map c_api_Disk p_disks)), (1, .s (List.map c_api_Chain p_l)), (5, vb x1), (6, .s (List.map c_api_Job x4.1)), (7, .s (List.map Go.Cat.encI x4.2)), (8, vi s1)], []⟩) (law27_ScrubOrder_B1 x4 p_l p_disks x1) (s0 := 0) h (Wk.tab Q6 Q0 rfl) ?_
  intro s1 y1 hB1 hy1
  unfold law27_ScrubOrder_B1 at hB1
  refine Ok.seq ?_
  refine Sg Tryz.tok ?_
  refine ⟨_, List.length_map _, fun _ => ?_⟩
  refine wT [(0, .s (List.map c_api_Disk p_disks)), (1, .s (List.map c_api_Chain p_l)), (5, vb x1), (6, .s (List.map c_api_Job x4.1)), (7, .s (List.map Go.Cat.encI x4.2)), (8, vi s1), (33, vb ((decide (s1 < (x4.1.length : Int)))))] [] Q7 Q0 rfl ?_
  refine Ok.cond (d := 33) (b := decide (s1 < (x4.1.length : Int))) rfl hB1 (fun hb hB1 => ?_) fun hb hB1 => ?_
  ·refine Ok.skip ?_
   refine Ok.seqj (fun v3 => ⟨Cat.tab [(0, .s (List.map c_api_Disk p_disks)), (1, .s (List.map c_api_Chain p_l)), (5, vb x1), (6, .s (List.map c_api_Job x4.1)), (7, .s (List.map Go.Cat.encI x4.2)), (8, vi s1)], []⟩) (fun v3 => law27_ScrubOrder_J2 s1 v3 = some y1) ?_ ?_
   ·refine Ok.block ?_
    refine Sg Tryz.tok ?_
    obtain ⟨x5, hx5, hB1⟩ := bindS hB1
    refine ⟨_, idx_nat hx5, _, idx_row hx5, _, rfl, _, rfl, ?_⟩
    refine wT [(0, .s (List.map c_api_Disk p_disks)), (1, .s (List.map c_api_Chain p_l)), (5, vb x1), (6, .s (List.map c_api_Job x4.1)), (7, .s (List.map Go.Cat.encI x4.2)), (8, vi s1), (9, .b 9 0)] [(9, .box [vi x5.Id, vi x5.Ver, vi x5.From, vi x5.To, vi x5.Have, vi x5.Left])] Q7 J1 rfl ?_
    refine Ok.seq ?_
    obtain ⟨v4, hv4, hB1⟩ := bindS hB1
    refine Ok.seqw ⟨Cat.tab [(0, .s (List.map c_api_Disk p_disks)), (1, .s (List.map c_api_Chain p_l)), (5, vb x1), (6, .s (List.map c_api_Job x4.1)), (7, .s (List.map Go.Cat.encI x4.2)), (8, vi s1), (9, .b 9 0), (80, vb v4)], [(9, .box [vi x5.Id, vi x5.Ver, vi x5.From, vi x5.To, vi x5.Have, vi x5.Left])]⟩ ?_ ?_
    ·refine Ok.draw (m := 41) (MD := ⟨[]⟩) (CH := ⟨[]⟩) Tryz.tok Tryz.mixed (by kernel_rfl) ?_
     obtain ⟨x6, hx6, hv4⟩ := bindS hv4
     refine ⟨_, rfl, _, rfl, _, ⟨_, rfl, rfl⟩, _, ⟨_, .of_pure (w_law27_in hx6) (LeL.refl _), rfl⟩, _, rfl, ?_⟩
     obtain ⟨c5, hg2, hv4⟩ := bindS hv4
     refine Br.itf hg2 (fun hb hg2 => ?_) fun hb hg2 => ?_
     ·cases hg2
      refine ⟨_, rfl, ?_⟩
      refine ⟨Q0, ?_⟩
      cases hv4
      exact Wk.tab Q8 J1 rfl
     refine ⟨_, rfl, _, rfl, _, rfl, ?_⟩
     obtain ⟨c4, hg3, hg2⟩ := bindS hg2
     refine Br.ite hg3 (fun hb hg3 => ?_) fun hb hg3 => ?_
     ·obtain ⟨hc1, hg3⟩ := chk_some hg3
      obtain ⟨x7, hx7, hg3⟩ := bindS hg3
      refine ⟨_, rfl, _, rfl, _, Or.inl ⟨hc1, rfl⟩, _, ⟨_, idx_nat hx7, _, idx_row hx7, rfl⟩, _, rfl, _, ⟨_, rfl, rfl⟩, _, rfl, _, ⟨_, rfl, rfl⟩, _, rfl, _, rfl, ?_⟩
      obtain ⟨c3, hg4, hg3⟩ := bindS hg3
      refine Br.itf hg4 (fun hb hg4 => ?_) fun hb hg4 => ?_
      ·cases hg4
       refine ⟨_, rfl, ?_⟩
       cases hg3
       refine ⟨_, rfl, ?_⟩
       cases hg2
       refine ⟨_, rfl, ?_⟩
       refine ⟨Q0, ?_⟩
       cases hv4
       exact Wk.tab Q8 J1 rfl
      obtain ⟨hc2, hg4⟩ := chk_some hg4
      obtain ⟨x8, hx8, hg4⟩ := bindS hg4
      refine ⟨_, rfl, _, rfl, _, Or.inl ⟨hc2, rfl⟩, _, ⟨_, idx_nat hx8, _, idx_row hx8, rfl⟩, _, rfl, _, ⟨_, rfl, rfl⟩, _, rfl, _, ⟨_, rfl, rfl⟩, _, rfl, _, rfl, ?_⟩
      obtain ⟨c2, hg5, hg4⟩ := bindS hg4
      refine Br.ite hg5 (fun hb hg5 => ?_) fun hb hg5 => ?_
      ·obtain ⟨hc3, hg5⟩ := chk_some hg5
       obtain ⟨x9, hx9, hg5⟩ := bindS hg5
       refine ⟨_, rfl, _, rfl, _, Or.inl ⟨hc3, rfl⟩, _, ⟨_, idx_nat hx9, _, idx_row hx9, rfl⟩, _, rfl, _, ⟨_, rfl, rfl⟩, _, rfl, _, ⟨_, rfl, rfl⟩, _, rfl, ?_⟩
       cases hg5
       refine ⟨_, rfl, ?_⟩
       cases hg4
       refine ⟨_, rfl, ?_⟩
       cases hg3
       refine ⟨_, rfl, ?_⟩
       cases hg2
       refine ⟨_, rfl, ?_⟩
       refine ⟨Q0, ?_⟩
       cases hv4
       exact Wk.tab Q8 J1 rfl
      cases hg5
      refine ⟨_, rfl, ?_⟩
      cases hg4
      refine ⟨_, rfl, ?_⟩
      cases hg3
      refine ⟨_, rfl, ?_⟩
      cases hg2
      refine ⟨_, rfl, ?_⟩
      refine ⟨Q0, ?_⟩
      cases hv4
      exact Wk.tab Q8 J1 rfl
     cases hg3
     refine ⟨_, rfl, ?_⟩
     cases hg2
     refine ⟨_, rfl, ?_⟩
     refine ⟨Q0, ?_⟩
     cases hv4
     exact Wk.tab Q8 J1 rfl
    refine Ok.cond (d := 80) (b := v4) rfl hB1 (fun hb hB1 => ?_) fun hb hB1 => ?_
    ·refine Sg Tryz.tok ?_
     refine wT [(4, vb false)] [] Q1 Q0 rfl ?_
     refine Ok.ret ?_
     have hB1 := out_ret hB1 hy1
     cases hB1
     exact Fz.v
    refine Ok.skip ?_
    refine Sg Tryz.tok ?_
    refine wT [(0, .s (List.map c_api_Disk p_disks)), (1, .s (List.map c_api_Chain p_l)), (5, vb x1), (6, .s (List.map c_api_Job x4.1)), (7, .s (List.map Go.Cat.encI x4.2)), (8, vi s1), (9, .b 9 0), (10, vb false)] [(9, .box [vi x5.Id, vi x5.Ver, vi x5.From, vi x5.To, vi x5.Have, vi x5.Left])] Q8 J1 rfl ?_
    obtain ⟨v5, hv5, hB1⟩ := bindS hB1
    refine Ok.seqw ⟨Cat.tab [(0, .s (List.map c_api_Disk p_disks)), (1, .s (List.map c_api_Chain p_l)), (5, vb x1), (6, .s (List.map c_api_Job x4.1)), (7, .s (List.map Go.Cat.encI x4.2)), (8, vi s1), (10, vb v5)], []⟩ ?_ ?_
    ·refine Sg Tryz.tok ?_
     refine wT [(0, .s (List.map c_api_Disk p_disks)), (1, .s (List.map c_api_Chain p_l)), (5, vb x1), (6, .s (List.map c_api_Job x4.1)), (7, .s (List.map Go.Cat.encI x4.2)), (8, vi s1), (9, .b 9 0), (10, vb false), (11, vi (0))] [(9, .box [vi x5.Id, vi x5.Ver, vi x5.From, vi x5.To, vi x5.Have, vi x5.Left])] ⟨lr, Q8⟩ J1 rfl ?_
     refine Ok.block ?_
     refine Ok.loop (fun (s2 : Bool × Int) => ⟨Cat.tab [(0, .s (List.map c_api_Disk p_disks)), (1, .s (List.map c_api_Chain p_l)), (5, vb x1), (6, .s (List.map c_api_Job x4.1)), (7, .s (List.map Go.Cat.encI x4.2)), (8, vi s1), (9, .b 9 0), (10, vb s2.1), (11, vi s2.2)], [(9, .box [vi x5.Id, vi x5.Ver, vi x5.From, vi x5.To, vi x5.Have, vi x5.Left])]⟩) (law27_ScrubOrder_B2 p_l p_disks x5) (s0 := (false, 0)) hv5 (Wk.tab ⟨lr, Q8⟩ ⟨⟨_, rfl, .refl _⟩, Q0⟩ rfl) ?_
     intro s2 y2 hB2 hy2
     unfold law27_ScrubOrder_B2 at hB2
     refine Ok.seq ?_
     refine Sg Tryz.tok ?_
     refine ⟨_, List.length_map _, fun _ => ?_⟩
     refine wT [(0, .s (List.map c_api_Disk p_disks)), (1, .s (List.map c_api_Chain p_l)), (5, vb x1), (6, .s (List.map c_api_Job x4.1)), (7, .s (List.map Go.Cat.encI x4.2)), (8, vi s1), (9, .b 9 0), (10, vb s2.1), (11, vi s2.2), (84, vb ((decide (s2.2 < (p_l.length : Int)))))] [(9, .box [vi x5.Id, vi x5.Ver, vi x5.From, vi x5.To, vi x5.Have, vi x5.Left])] ⟨lr, lr, Q8⟩ J1 rfl ?_
     refine Ok.cond (d := 84) (b := decide (s2.2 < (p_l.length : Int))) rfl hB2 (fun hb hB2 => ?_) fun hb hB2 => ?_
     ·refine Ok.skip ?_
      obtain ⟨v6, hv6, hB2⟩ := bindS hB2
      refine Ok.seqw ⟨Cat.tab [(0, .s (List.map c_api_Disk p_disks)), (1, .s (List.map c_api_Chain p_l)), (5, vb x1), (6, .s (List.map c_api_Job x4.1)), (7, .s (List.map Go.Cat.encI x4.2)), (8, vi s1), (9, .b 9 0), (10, vb v6), (11, vi s2.2)], [(9, .box [vi x5.Id, vi x5.Ver, vi x5.From, vi x5.To, vi x5.Have, vi x5.Left])]⟩ ?_ ?_
      ·refine Ok.block ?_
       refine Sg Tryz.tok ?_
       obtain ⟨x10, hx10, hv6⟩ := bindS hv6
       obtain ⟨x11, hx11, hv6⟩ := bindS hv6
       refine ⟨_, idx_nat hx10, _, idx_row hx10, _, rfl, ?_⟩
       refine CallOk.call (w_scrub_Intact hx11) (LeL.refl _) ?_
       refine wT [(0, .s (List.map c_api_Disk p_disks)), (1, .s (List.map c_api_Chain p_l)), (5, vb x1), (6, .s (List.map c_api_Job x4.1)), (7, .s (List.map Go.Cat.encI x4.2)), (8, vi s1), (9, .b 9 0), (10, vb s2.1), (11, vi s2.2), (12, .s (List.map Go.Cat.encI x11))] [(9, .box [vi x5.Id, vi x5.Ver, vi x5.From, vi x5.To, vi x5.Have, vi x5.Left])] ⟨lr, lr, Q8⟩ J1 rfl ?_
       refine Ok.draw (m := 61) (MD := ⟨[]⟩) (CH := ⟨[]⟩) Tryz.tok Tryz.mixed (by kernel_rfl) ?_
       refine ⟨_, rfl, _, rfl, ?_⟩
       obtain ⟨c13, hg6, hv6⟩ := bindS hv6
       refine Br.itf hg6 (fun hb hg6 => ?_) fun hb hg6 => ?_
       ·cases hg6
        refine ⟨_, rfl, ?_⟩
        refine ⟨Q0, ?_⟩
        cases hv6
        exact Wk.tab ⟨lr, Q8⟩ J1 rfl
       obtain ⟨x12, hx12, hg6⟩ := bindS hg6
       refine ⟨_, rfl, _, rfl, _, ⟨_, idx_nat hx12, _, idx_row hx12, rfl⟩, _, rfl, _, ⟨_, rfl, rfl⟩, _, rfl, _, ⟨_, rfl, rfl⟩, _, rfl, _, rfl, ?_⟩
       obtain ⟨c6, hg7, hg6⟩ := bindS hg6
       refine Br.ite hg7 (fun hb hg7 => ?_) fun hb hg7 => ?_
       ·obtain ⟨x13, hx13, hg7⟩ := bindS hg7
        refine ⟨_, rfl, _, rfl, _, ⟨_, idx_nat hx13, _, idx_row hx13, rfl⟩, _, rfl, _, ⟨_, rfl, rfl⟩, _, rfl, _, ⟨_, rfl, rfl⟩, _, rfl, ?_⟩
        cases hg7
        refine ⟨_, rfl, ?_⟩
        refine ⟨_, rfl, ?_⟩
        obtain ⟨c7, hg8, hg6⟩ := bindS hg6
        refine Br.ite hg8 (fun hb hg8 => ?_) fun hb hg8 => ?_
        ·obtain ⟨x14, hx14, hg8⟩ := bindS hg8
         obtain ⟨x15, hx15, hg8⟩ := bindS hg8
         refine ⟨_, rfl, _, rfl, _, ⟨_, idx_nat hx14, _, idx_row hx14, rfl⟩, _, rfl, _, ⟨_, rfl, rfl⟩, _, rfl, _, ⟨_, rfl, rfl⟩, _, ⟨_, .of_pure (w_law27_in hx15) (LeL.refl _), rfl⟩, ?_⟩
         cases hg8
         refine ⟨_, rfl, ?_⟩
         refine ⟨_, rfl, ?_⟩
         obtain ⟨c8, hg9, hg6⟩ := bindS hg6
         refine Br.ite hg9 (fun hb hg9 => ?_) fun hb hg9 => ?_
         ·obtain ⟨x16, hx16, hg9⟩ := bindS hg9
          refine ⟨_, rfl, _, rfl, _, ⟨_, rfl, rfl⟩, _, ⟨_, .of_pure (w_law27_in hx16) (LeL.refl _), rfl⟩, ?_⟩
          cases hg9
          refine ⟨_, rfl, ?_⟩
          refine ⟨_, rfl, ?_⟩
          obtain ⟨c9, hg10, hg6⟩ := bindS hg6
          refine Br.ite hg10 (fun hb hg10 => ?_) fun hb hg10 => ?_
          ·obtain ⟨x17, hx17, hg10⟩ := bindS hg10
           refine ⟨_, rfl, _, rfl, _, ⟨_, rfl, rfl⟩, _, ⟨_, .of_pure (w_law27_in hx17) (LeL.refl _), rfl⟩, _, rfl, ?_⟩
           cases hg10
           refine ⟨_, rfl, ?_⟩
           refine ⟨_, rfl, ?_⟩
           obtain ⟨c10, hg11, hg6⟩ := bindS hg6
           refine Br.ite hg11 (fun hb hg11 => ?_) fun hb hg11 => ?_
           ·refine ⟨_, rfl, _, ⟨_, rfl, rfl⟩, _, rfl, _, ⟨_, List.length_map _, fun _ => rfl⟩, _, rfl, ?_⟩
            cases hg11
            refine ⟨_, rfl, ?_⟩
            refine ⟨_, rfl, ?_⟩
            obtain ⟨c11, hg12, hg6⟩ := bindS hg6
            refine Br.ite hg12 (fun hb hg12 => ?_) fun hb hg12 => ?_
            ·refine ⟨_, rfl, _, ⟨_, rfl, rfl⟩, _, rfl, ?_⟩
             cases hg12
             refine ⟨_, rfl, ?_⟩
             refine ⟨_, rfl, ?_⟩
             obtain ⟨c12, hg13, hg6⟩ := bindS hg6
             refine Br.ite hg13 (fun hb hg13 => ?_) fun hb hg13 => ?_
             ·refine ⟨_, rfl, _, ⟨_, rfl, rfl⟩, _, rfl, ?_⟩
              cases hg13
              refine ⟨_, rfl, ?_⟩
              cases hg6
              refine ⟨_, rfl, ?_⟩
              refine ⟨Q0, ?_⟩
              cases hv6
              exact Wk.tab ⟨lr, Q8⟩ J1 rfl
             cases hg13
             refine ⟨_, rfl, ?_⟩
             cases hg6
             refine ⟨_, rfl, ?_⟩
             refine ⟨Q0, ?_⟩
             cases hv6
             exact Wk.tab ⟨lr, Q8⟩ J1 rfl
            cases hg12
            refine ⟨_, rfl, ?_⟩
            refine ⟨_, rfl, ?_⟩
            obtain ⟨c12, hg14, hg6⟩ := bindS hg6
            replace hg14 := iteF hg14
            cases hg14
            refine ⟨_, rfl, ?_⟩
            cases hg6
            refine ⟨_, rfl, ?_⟩
            refine ⟨Q0, ?_⟩
            cases hv6
            exact Wk.tab ⟨lr, Q8⟩ J1 rfl
           cases hg11
           refine ⟨_, rfl, ?_⟩
           refine ⟨_, rfl, ?_⟩
           obtain ⟨c11, hg15, hg6⟩ := bindS hg6
           replace hg15 := iteF hg15
           cases hg15
           refine ⟨_, rfl, ?_⟩
           refine ⟨_, rfl, ?_⟩
           obtain ⟨c12, hg16, hg6⟩ := bindS hg6
           replace hg16 := iteF hg16
           cases hg16
           refine ⟨_, rfl, ?_⟩
           cases hg6
           refine ⟨_, rfl, ?_⟩
           refine ⟨Q0, ?_⟩
           cases hv6
           exact Wk.tab ⟨lr, Q8⟩ J1 rfl
          cases hg10
          refine ⟨_, rfl, ?_⟩
          refine ⟨_, rfl, ?_⟩
          obtain ⟨c10, hg17, hg6⟩ := bindS hg6
          replace hg17 := iteF hg17
          cases hg17
          refine ⟨_, rfl, ?_⟩
          refine ⟨_, rfl, ?_⟩
          obtain ⟨c11, hg18, hg6⟩ := bindS hg6
          replace hg18 := iteF hg18
          cases hg18
          refine ⟨_, rfl, ?_⟩
          refine ⟨_, rfl, ?_⟩
          obtain ⟨c12, hg19, hg6⟩ := bindS hg6
          replace hg19 := iteF hg19
          cases hg19
          refine ⟨_, rfl, ?_⟩
          cases hg6
          refine ⟨_, rfl, ?_⟩
          refine ⟨Q0, ?_⟩
          cases hv6
          exact Wk.tab ⟨lr, Q8⟩ J1 rfl
         cases hg9
         refine ⟨_, rfl, ?_⟩
         refine ⟨_, rfl, ?_⟩
         obtain ⟨c9, hg20, hg6⟩ := bindS hg6
         replace hg20 := iteF hg20
         cases hg20
         refine ⟨_, rfl, ?_⟩
         refine ⟨_, rfl, ?_⟩
         obtain ⟨c10, hg21, hg6⟩ := bindS hg6
         replace hg21 := iteF hg21
         cases hg21
         refine ⟨_, rfl, ?_⟩
         refine ⟨_, rfl, ?_⟩
         obtain ⟨c11, hg22, hg6⟩ := bindS hg6
         replace hg22 := iteF hg22
         cases hg22
         refine ⟨_, rfl, ?_⟩
         refine ⟨_, rfl, ?_⟩
         obtain ⟨c12, hg23, hg6⟩ := bindS hg6
         replace hg23 := iteF hg23
         cases hg23
         refine ⟨_, rfl, ?_⟩
         cases hg6
         refine ⟨_, rfl, ?_⟩
         refine ⟨Q0, ?_⟩
         cases hv6
         exact Wk.tab ⟨lr, Q8⟩ J1 rfl
        cases hg8
        refine ⟨_, rfl, ?_⟩
        refine ⟨_, rfl, ?_⟩
        obtain ⟨c8, hg24, hg6⟩ := bindS hg6
        replace hg24 := iteF hg24
        cases hg24
        refine ⟨_, rfl, ?_⟩
        refine ⟨_, rfl, ?_⟩
        obtain ⟨c9, hg25, hg6⟩ := bindS hg6
        replace hg25 := iteF hg25
        cases hg25
        refine ⟨_, rfl, ?_⟩
        refine ⟨_, rfl, ?_⟩
        obtain ⟨c10, hg26, hg6⟩ := bindS hg6
        replace hg26 := iteF hg26
        cases hg26
        refine ⟨_, rfl, ?_⟩
        refine ⟨_, rfl, ?_⟩
        obtain ⟨c11, hg27, hg6⟩ := bindS hg6
        replace hg27 := iteF hg27
        cases hg27
        refine ⟨_, rfl, ?_⟩
        refine ⟨_, rfl, ?_⟩
        obtain ⟨c12, hg28, hg6⟩ := bindS hg6
        replace hg28 := iteF hg28
        cases hg28
        refine ⟨_, rfl, ?_⟩
        cases hg6
        refine ⟨_, rfl, ?_⟩
        refine ⟨Q0, ?_⟩
        cases hv6
        exact Wk.tab ⟨lr, Q8⟩ J1 rfl
       cases hg7
       refine ⟨_, rfl, ?_⟩
       refine ⟨_, rfl, ?_⟩
       obtain ⟨c7, hg29, hg6⟩ := bindS hg6
       replace hg29 := iteF hg29
       cases hg29
       refine ⟨_, rfl, ?_⟩
       refine ⟨_, rfl, ?_⟩
       obtain ⟨c8, hg30, hg6⟩ := bindS hg6
       replace hg30 := iteF hg30
       cases hg30
       refine ⟨_, rfl, ?_⟩
       refine ⟨_, rfl, ?_⟩
       obtain ⟨c9, hg31, hg6⟩ := bindS hg6
       replace hg31 := iteF hg31
       cases hg31
       refine ⟨_, rfl, ?_⟩
       refine ⟨_, rfl, ?_⟩
       obtain ⟨c10, hg32, hg6⟩ := bindS hg6
       replace hg32 := iteF hg32
       cases hg32
       refine ⟨_, rfl, ?_⟩
       refine ⟨_, rfl, ?_⟩
       obtain ⟨c11, hg33, hg6⟩ := bindS hg6
       replace hg33 := iteF hg33
       cases hg33
       refine ⟨_, rfl, ?_⟩
       refine ⟨_, rfl, ?_⟩
       obtain ⟨c12, hg34, hg6⟩ := bindS hg6
       replace hg34 := iteF hg34
       cases hg34
       refine ⟨_, rfl, ?_⟩
       cases hg6
       refine ⟨_, rfl, ?_⟩
       refine ⟨Q0, ?_⟩
       cases hv6
       exact Wk.tab ⟨lr, Q8⟩ J1 rfl
      refine Ok.region Tryz.tok ?_
      obtain ⟨hc4, hB2⟩ := chk_some hB2
      refine (Or.inl ⟨hc4, ?_⟩)
      exact ⟨_, sj hB2, Wk.tab ⟨lr, Q8⟩ J1 rfl⟩
     refine Ok.exit ?_
     have hB2 := out_ret hB2 hy2
     cases hB2
     exact Wk.tab Q7 Q0 rfl
    refine Sg Tryz.tok ?_
    refine wT [(0, .s (List.map c_api_Disk p_disks)), (1, .s (List.map c_api_Chain p_l)), (5, vb x1), (6, .s (List.map c_api_Job x4.1)), (7, .s (List.map Go.Cat.encI x4.2)), (8, vi s1), (155, vb ((!v5)))] [] Q7 Q0 rfl ?_
    refine Ok.cond (d := 155) (b := !v5) rfl hB1 (fun hb hB1 => ?_) fun hb hB1 => ?_
    ·refine Sg Tryz.tok ?_
     refine wT [(4, vb false)] [] Q1 Q0 rfl ?_
     refine Ok.ret ?_
     have hB1 := out_ret hB1 hy1
     cases hB1
     exact Fz.v
    refine Ok.skip ?_
    exact ⟨_, hB1, Wk.tab Q6 Q0 rfl⟩
   intro v3 hB1
   unfold law27_ScrubOrder_J2 at hB1
   refine Ok.region Tryz.tok ?_
   obtain ⟨hc5, hB1⟩ := chk_some hB1
   refine (Or.inl ⟨hc5, ?_⟩)
   exact ⟨_, sj hB1, Wk.tab Q6 Q0 rfl⟩
  refine Ok.exit ?_
  have hB1 := out_ret hB1 hy1
  exact ⟨_, hB1, Wk.tab Q4 Q0 rfl⟩
 intro v2 h
 unfold law27_ScrubOrder_J1 at h
 refine Ok.seqj (fun v7 => ⟨Cat.tab [(5, vb x1)], []⟩) (fun v7 => law27_ScrubOrder_J3 x1 v7 = some r) ?_ ?_
 ·refine Sg Tryz.tok ?_
  refine wT [(0, .s (List.map c_api_Disk p_disks)), (1, .s (List.map c_api_Chain p_l)), (5, vb x1), (7, .s (List.map Go.Cat.encI x4.2)), (13, vi (0))] [] Q5 Q0 rfl ?_
  refine Ok.block ?_
  refine Ok.loop (fun (s3 : Int) => ⟨Cat.tab [(0, .s (List.map c_api_Disk p_disks)), (1, .s (List.map c_api_Chain p_l)), (5, vb x1), (7, .s (List.map Go.Cat.encI x4.2)), (13, vi s3)], []⟩) (law27_ScrubOrder_B3 p_l x4 p_disks x1) (s0 := 0) h (Wk.tab Q5 Q0 rfl) ?_
  intro s3 y3 hB3 hy3
  unfold law27_ScrubOrder_B3 at hB3
  refine Ok.seq ?_
  refine Sg Tryz.tok ?_
  refine ⟨_, List.length_map _, fun _ => ?_⟩
  refine wT [(0, .s (List.map c_api_Disk p_disks)), (1, .s (List.map c_api_Chain p_l)), (5, vb x1), (7, .s (List.map Go.Cat.encI x4.2)), (13, vi s3), (159, vb ((decide (s3 < (p_l.length : Int)))))] [] Q6 Q0 rfl ?_
  refine Ok.cond (d := 159) (b := decide (s3 < (p_l.length : Int))) rfl hB3 (fun hb hB3 => ?_) fun hb hB3 => ?_
  ·refine Ok.skip ?_
   refine Ok.seq ?_
   refine Ok.block ?_
   refine Ok.seq ?_
   refine Ok.draw (m := 16) (MD := ⟨[]⟩) (CH := ⟨[]⟩) Tryz.tok Tryz.mixed (by kernel_rfl) ?_
   obtain ⟨x18, hx18, hB3⟩ := bindS hB3
   obtain ⟨x19, hx19, hB3⟩ := bindS hB3
   obtain ⟨x20, hx20, hB3⟩ := bindS hB3
   obtain ⟨x21, hx21, hB3⟩ := bindS hB3
   refine ⟨_, rfl, _, rfl, _, rfl, _, ⟨_, idx_nat hx18, _, idx_row hx18, rfl⟩, _, rfl, _, ⟨_, rfl, rfl⟩, _, ⟨_, .of_pure (w_law27_in hx19) (LeL.refl _), rfl⟩, _, rfl, _, rfl, _, rfl, _, ⟨_, idx_nat hx20, _, idx_row hx20, rfl⟩, _, ⟨_, rfl, rfl⟩, _, ⟨_, .of_pure (w_scrub_Intact hx21) (LeL.refl _), rfl⟩, _, ⟨_, List.length_map _, fun _ => rfl⟩, _, rfl, _, rfl, Q0, ?_⟩
   refine wT [(0, .s (List.map c_api_Disk p_disks)), (1, .s (List.map c_api_Chain p_l)), (5, vb x1), (7, .s (List.map Go.Cat.encI x4.2)), (13, vi s3), (177, vb ((!(x19 == ((x21.length : Int) == 0)))))] [] Q6 Q0 rfl ?_
   refine Ok.cond (d := 177) (b := !(x19 == ((x21.length : Int) == 0))) rfl hB3 (fun hb hB3 => ?_) fun hb hB3 => ?_
   ·refine Sg Tryz.tok ?_
    refine wT [(4, vb false)] [] Q1 Q0 rfl ?_
    refine Ok.ret ?_
    have hB3 := out_ret hB3 hy3
    cases hB3
    exact Fz.v
   refine Ok.skip ?_
   refine Ok.region Tryz.tok ?_
   obtain ⟨hc6, hB3⟩ := chk_some hB3
   refine (Or.inl ⟨hc6, ?_⟩)
   exact ⟨_, sj hB3, Wk.tab Q5 Q0 rfl⟩
  refine Ok.exit ?_
  have hB3 := out_ret hB3 hy3
  exact ⟨_, hB3, Wk.tab Q1 Q0 rfl⟩
 intro v7 h
 unfold law27_ScrubOrder_J3 at h
 refine Sg Tryz.tok ?_
 refine wT [(4, vb x1)] [] Q1 Q0 rfl ?_
 refine Ok.ret ?_
 cases h
 exact Fz.v
end Go.Proofs
