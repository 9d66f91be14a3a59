/- The walks of this seat beside the plain programs, part 3. No condition. -/
import Derived.Test.YtpohijpdclienaaGreatXScrubDoesEn
import Derived.Test.YtpohijpdclienaaGreatXScrubDoesWk0
import Derived.Test.YtpohijpdclienaaGreatXScrubDoesWk1
import Derived.Test.YtpohijpdclienaaGreatXScrubDoesWk2
namespace Go.Proofs
set_option linter.all false
open Go Go.Cat
variable [M : Mono]
set_option maxRecDepth 100000
theorem w_law25_Great {p_d} {r} (h : law25_Great p_d = some r) : Pure Tryz.prog 37 [(.a [(.s (mI p_d.Synced)), (.s (mI p_d.Loose)), (vb p_d.Down)])] (vb r) := by
 refine po Tryz.tok 48 Tryz.func37 (by kernel_rfl) rfl rfl rfl ?_
 unfold law25_Great at h
 refine wE [(0, .a [.s (mI p_d.Synced), .s (mI p_d.Loose), vb p_d.Down])] Q1 ?_
 refine sg ?_
 refine wT [(1, .b 1 0)] [(1, .box [.s (mI p_d.Synced), .s (mI p_d.Loose), vb p_d.Down])] Q1 J1 rfl ?_
 refine sq ?_
 obtain ⟨v1, hv1, h⟩ := bindS h
 refine Ok.seqw ⟨Cat.tab [(1, .b 1 0), (14, vb v1)], [(1, .box [.s (mI p_d.Synced), .s (mI p_d.Loose), vb p_d.Down])]⟩ ?_ ?_
 ·refine rg ?_
  refine ⟨_, rfl, _, List.length_map _, fun _ => ?_⟩
  obtain ⟨c1, hg1, hv1⟩ := bindS hv1
  refine Br.itf hg1 (fun hb hg1 => ?_) fun hb hg1 => ?_
  ·cases hg1
   cases hv1
   exact wt Q2 J1 rfl
  refine ⟨_, rfl, _, List.length_map _, fun _ => ?_⟩
  cases hg1
  cases hv1
  exact wt Q2 J1 rfl
 refine cn 14 (v1) rfl h (fun hb h => ?_) fun hb h => ?_
 ·refine sg ?_
  refine wE [(2, vb true)] Q1 ?_
  refine rt ?_
  cases h
  exact Fz.v
 refine sk ?_
 refine Ok.seqj (fun v2 => ⟨Cat.tab [(1, .b 1 0)], [(1, .box [.s (mI p_d.Synced), .s (mI p_d.Loose), vb p_d.Down])]⟩) (fun v2 => law25_Great_J1 p_d v2 = some r) ?_ ?_
 ·refine sg ?_
  refine wT [(1, .b 1 0), (3, vi (0))] [(1, .box [.s (mI p_d.Synced), .s (mI p_d.Loose), vb p_d.Down])] Q2 J1 rfl ?_
  refine bl ?_
  refine Ok.loop (fun (s1 : Int) => ⟨Cat.tab [(1, .b 1 0), (3, vi s1)], [(1, .box [.s (mI p_d.Synced), .s (mI p_d.Loose), vb p_d.Down])]⟩) (law25_Great_B1 p_d) (s0 := 0) h (wt Q2 ⟨⟨_, rfl, .refl _⟩, Q0⟩ rfl) ?_
  intro s1 y1 hB1 hy1
  unfold law25_Great_B1 at hB1
  refine sq ?_
  refine sg ?_
  refine ⟨_, rfl, _, List.length_map _, fun _ => ?_⟩
  refine wT [(1, .b 1 0), (3, vi s1), (19, vb (decide (s1 < (p_d.Synced.length : Int))))] [(1, .box [.s (mI p_d.Synced), .s (mI p_d.Loose), vb p_d.Down])] Q3 J1 rfl ?_
  refine cn 19 (decide (s1 < (p_d.Synced.length : Int))) rfl hB1 (fun hb hB1 => ?_) fun hb hB1 => ?_
  ·refine sk ?_
   refine sq ?_
   refine bl ?_
   refine sg ?_
   obtain ⟨x1, hx1, hB1⟩ := bindS hB1
   refine ⟨_, rfl, _, idx_nat hx1, _, idx_row hx1, _, rfl, _, List.length_map _, fun _ => ?_⟩
   refine wT [(1, .b 1 0), (3, vi s1), (29, vb (decide ((x1.Data.length : Int) > 200)))] [(1, .box [.s (mI p_d.Synced), .s (mI p_d.Loose), vb p_d.Down])] Q3 J1 rfl ?_
   refine cn 29 (decide ((x1.Data.length : Int) > 200)) rfl hB1 (fun hb hB1 => ?_) fun hb hB1 => ?_
   ·refine sg ?_
    refine wE [(2, vb true)] Q1 ?_
    refine rt ?_
    have hB1 := out_ret hB1 hy1
    cases hB1
    exact Fz.v
   refine sk ?_
   refine rg ?_
   obtain ⟨hc1, hB1⟩ := chk_some hB1
   refine (Or.inl ⟨hc1, ?_⟩)
   exact ⟨_, sj hB1, wt Q2 J1 rfl⟩
  refine xt ?_
  have hB1 := out_ret hB1 hy1
  exact ⟨_, hB1, wt Q1 ⟨⟨_, rfl, .refl _⟩, Q0⟩ rfl⟩
 intro v2 h
 unfold law25_Great_J1 at h
 refine Ok.seqj (fun v3 => ⟨Cat.tab [(1, .b 1 0)], [(1, .box [.s (mI p_d.Synced), .s (mI p_d.Loose), vb p_d.Down])]⟩) (fun v3 => law25_Great_J2 p_d v3 = some r) ?_ ?_
 ·refine sg ?_
  refine wT [(1, .b 1 0), (4, vi (0))] [(1, .box [.s (mI p_d.Synced), .s (mI p_d.Loose), vb p_d.Down])] Q2 J1 rfl ?_
  refine bl ?_
  refine Ok.loop (fun (s2 : Int) => ⟨Cat.tab [(1, .b 1 0), (4, vi s2)], [(1, .box [.s (mI p_d.Synced), .s (mI p_d.Loose), vb p_d.Down])]⟩) (law25_Great_B2 p_d) (s0 := 0) h (wt Q2 ⟨⟨_, rfl, .refl _⟩, Q0⟩ rfl) ?_
  intro s2 y2 hB2 hy2
  unfold law25_Great_B2 at hB2
  refine sq ?_
  refine sg ?_
  refine ⟨_, rfl, _, List.length_map _, fun _ => ?_⟩
  refine wT [(1, .b 1 0), (4, vi s2), (34, vb (decide (s2 < (p_d.Loose.length : Int))))] [(1, .box [.s (mI p_d.Synced), .s (mI p_d.Loose), vb p_d.Down])] Q3 J1 rfl ?_
  refine cn 34 (decide (s2 < (p_d.Loose.length : Int))) rfl hB2 (fun hb hB2 => ?_) fun hb hB2 => ?_
  ·refine sk ?_
   refine sq ?_
   refine bl ?_
   refine sg ?_
   obtain ⟨x2, hx2, hB2⟩ := bindS hB2
   refine ⟨_, rfl, _, idx_nat hx2, _, idx_row hx2, _, rfl, _, List.length_map _, fun _ => ?_⟩
   refine wT [(1, .b 1 0), (4, vi s2), (44, vb (decide ((x2.Data.length : Int) > 200)))] [(1, .box [.s (mI p_d.Synced), .s (mI p_d.Loose), vb p_d.Down])] Q3 J1 rfl ?_
   refine cn 44 (decide ((x2.Data.length : Int) > 200)) rfl hB2 (fun hb hB2 => ?_) fun hb hB2 => ?_
   ·refine sg ?_
    refine wE [(2, vb true)] Q1 ?_
    refine rt ?_
    have hB2 := out_ret hB2 hy2
    cases hB2
    exact Fz.v
   refine sk ?_
   refine rg ?_
   obtain ⟨hc2, hB2⟩ := chk_some hB2
   refine (Or.inl ⟨hc2, ?_⟩)
   exact ⟨_, sj hB2, wt Q2 J1 rfl⟩
  refine xt ?_
  have hB2 := out_ret hB2 hy2
  exact ⟨_, hB2, wt Q1 ⟨⟨_, rfl, .refl _⟩, Q0⟩ rfl⟩
 intro v3 h
 unfold law25_Great_J2 at h
 refine sg ?_
 obtain ⟨x3, hx3, h⟩ := bindS h
 refine ⟨_, rfl, ?_⟩
 refine CallOk.call (w_ref04_Right hx3) (LeL.refl _) ?_
 refine wE [(2, vb (!x3))] Q1 ?_
 refine rt ?_
 cases h
 exact Fz.v
theorem w_law27_Great {p_disks} {p_l} {r} (h : law27_Great p_disks p_l = some r) : Pure Tryz.prog 10 [(.s (mB p_disks)), (.s (mC p_l))] (vb r) := by
 refine po Tryz.tok 39 Tryz.func10 (by kernel_rfl) rfl rfl rfl ?_
 unfold law27_Great at h
 refine wE [(0, .s (mB p_disks)), (1, .s (mC p_l))] Q2 ?_
 refine sg ?_
 refine wE [(0, .s (mB p_disks)), (1, .s (mC p_l))] Q2 ?_
 refine sq ?_
 obtain ⟨v1, hv1, h⟩ := bindS h
 refine Ok.seqw ⟨Cat.tab [(0, .s (mB p_disks)), (1, .s (mC p_l)), (14, vb v1)], []⟩ ?_ ?_
 ·refine rg ?_
  refine ⟨_, List.length_map _, fun _ => ?_⟩
  obtain ⟨c1, hg1, hv1⟩ := bindS hv1
  refine Br.itf hg1 (fun hb hg1 => ?_) fun hb hg1 => ?_
  ·cases hg1
   cases hv1
   exact wt Q3 Q0 rfl
  refine ⟨_, List.length_map _, fun _ => ?_⟩
  cases hg1
  cases hv1
  exact wt Q3 Q0 rfl
 refine cn 14 (v1) rfl h (fun hb h => ?_) fun hb h => ?_
 ·refine sg ?_
  refine wE [(4, vb true)] Q1 ?_
  refine rt ?_
  cases h
  exact Fz.v
 refine sk ?_
 refine Ok.seqj (fun v2 => ⟨Cat.tab [(1, .s (mC p_l))], []⟩) (fun v2 => law27_Great_J1 p_l v2 = some r) ?_ ?_
 ·refine sg ?_
  refine wE [(0, .s (mB p_disks)), (1, .s (mC p_l)), (5, vi (0))] Q3 ?_
  refine bl ?_
  refine Ok.loop (fun (s1 : Int) => ⟨Cat.tab [(0, .s (mB p_disks)), (1, .s (mC p_l)), (5, vi s1)], []⟩) (law27_Great_B1 p_disks p_l) (s0 := 0) h (wt Q3 Q0 rfl) ?_
  intro s1 y1 hB1 hy1
  unfold law27_Great_B1 at hB1
  refine sq ?_
  refine sg ?_
  refine ⟨_, List.length_map _, fun _ => ?_⟩
  refine wE [(0, .s (mB p_disks)), (1, .s (mC p_l)), (5, vi s1), (18, vb (decide (s1 < (p_disks.length : Int))))] Q4 ?_
  refine cn 18 (decide (s1 < (p_disks.length : Int))) rfl hB1 (fun hb hB1 => ?_) fun hb hB1 => ?_
  ·refine sk ?_
   refine sq ?_
   refine bl ?_
   refine sg ?_
   obtain ⟨x1, hx1, hB1⟩ := bindS hB1
   obtain ⟨x2, hx2, hB1⟩ := bindS hB1
   refine ⟨_, idx_nat hx1, _, idx_row hx1, _, rfl, ?_⟩
   refine CallOk.call (w_law25_Great hx2) (LeL.refl _) ?_
   refine wE [(0, .s (mB p_disks)), (1, .s (mC p_l)), (5, vi s1), (25, vb x2)] Q4 ?_
   refine cn 25 (x2) rfl hB1 (fun hb hB1 => ?_) fun hb hB1 => ?_
   ·refine sg ?_
    refine wE [(4, vb true)] Q1 ?_
    refine rt ?_
    have hB1 := out_ret hB1 hy1
    cases hB1
    exact Fz.v
   refine sk ?_
   refine rg ?_
   obtain ⟨hc1, hB1⟩ := chk_some hB1
   refine (Or.inl ⟨hc1, ?_⟩)
   exact ⟨_, sj hB1, wt Q3 Q0 rfl⟩
  refine xt ?_
  have hB1 := out_ret hB1 hy1
  exact ⟨_, hB1, wt Q1 Q0 rfl⟩
 intro v2 h
 unfold law27_Great_J1 at h
 refine Ok.seqj (fun v3 => ⟨Cat.tab [], []⟩) (fun v3 => law27_Great_J2 v3 = some r) ?_ ?_
 ·refine sg ?_
  refine wE [(1, .s (mC p_l)), (6, vi (0))] Q2 ?_
  refine bl ?_
  refine Ok.loop (fun (s2 : Int) => ⟨Cat.tab [(1, .s (mC p_l)), (6, vi s2)], []⟩) (law27_Great_B2 p_l) (s0 := 0) h (wt Q2 Q0 rfl) ?_
  intro s2 y2 hB2 hy2
  unfold law27_Great_B2 at hB2
  refine sq ?_
  refine sg ?_
  refine ⟨_, List.length_map _, fun _ => ?_⟩
  refine wE [(1, .s (mC p_l)), (6, vi s2), (29, vb (decide (s2 < (p_l.length : Int))))] Q3 ?_
  refine cn 29 (decide (s2 < (p_l.length : Int))) rfl hB2 (fun hb hB2 => ?_) fun hb hB2 => ?_
  ·refine sk ?_
   refine sq ?_
   refine bl ?_
   refine sg ?_
   obtain ⟨x3, hx3, hB2⟩ := bindS hB2
   refine ⟨_, idx_nat hx3, _, idx_row hx3, _, rfl, _, List.length_map _, fun _ => ?_⟩
   refine wE [(1, .s (mC p_l)), (6, vi s2), (38, vb (decide ((x3.Servers.length : Int) > 12)))] Q3 ?_
   refine cn 38 (decide ((x3.Servers.length : Int) > 12)) rfl hB2 (fun hb hB2 => ?_) fun hb hB2 => ?_
   ·refine sg ?_
    refine wE [(4, vb true)] Q1 ?_
    refine rt ?_
    have hB2 := out_ret hB2 hy2
    cases hB2
    exact Fz.v
   refine sk ?_
   refine rg ?_
   obtain ⟨hc2, hB2⟩ := chk_some hB2
   refine (Or.inl ⟨hc2, ?_⟩)
   exact ⟨_, sj hB2, wt Q2 Q0 rfl⟩
  refine xt ?_
  have hB2 := out_ret hB2 hy2
  exact ⟨_, hB2, wt Q0 Q0 rfl⟩
 intro v3 h
 unfold law27_Great_J2 at h
 refine sg ?_
 refine wE [(4, vb false)] Q1 ?_
 refine rt ?_
 cases h
 exact Fz.v
theorem w_ref27_there {p_disks} {p_s} {r} (h : ref27_there p_disks p_s = some r) : Pure Tryz.prog 59 [(.s (mB p_disks)), (vi p_s)] (vb r) := by
 refine po Tryz.tok 13 Tryz.func59 (by kernel_rfl) rfl rfl rfl ?_
 unfold ref27_there at h
 refine wE [(0, .s (mB p_disks)), (1, vi p_s)] Q2 ?_
 refine sg ?_
 refine wE [(0, .s (mB p_disks)), (1, vi p_s)] Q2 ?_
 obtain ⟨v1, hv1, h⟩ := bindS h
 refine Ok.seqw ⟨Cat.tab [(4, vb v1)], []⟩ ?_ ?_
 ·refine rg ?_
  obtain ⟨c1, hg1, hv1⟩ := bindS hv1
  refine Br.ite hg1 (fun hb hg1 => ?_) fun hb hg1 => ?_
  ·refine ⟨_, List.length_map _, fun _ => ?_⟩
   cases hg1
   cases hv1
   exact wt Q1 Q0 rfl
  cases hg1
  cases hv1
  exact wt Q1 Q0 rfl
 refine rt ?_
 cases h
 exact Fz.v
theorem w_ref04_Read {p_d} {p_at} {r} (h : ref04_Read p_d p_at = some r) : Pure Tryz.prog 92 [(.a [(.s (mI p_d.Synced)), (.s (mI p_d.Loose)), (vb p_d.Down)]), (vi p_at)] (.t [(.s (mU r.1)), (vi r.2)]) := by
 refine po Tryz.tok 59 Tryz.func92 (by kernel_rfl) rfl rfl rfl ?_
 unfold ref04_Read at h
 refine wE [(0, .a [.s (mI p_d.Synced), .s (mI p_d.Loose), vb p_d.Down]), (1, vi p_at)] Q2 ?_
 refine sg ?_
 refine wT [(1, vi p_at), (2, .b 2 0)] [(2, .box [.s (mI p_d.Synced), .s (mI p_d.Loose), vb p_d.Down])] Q2 J1 rfl ?_
 refine sq ?_
 refine sg ?_
 refine ⟨_, rfl, ?_⟩
 refine wT [(1, vi p_at), (2, .b 2 0), (9, vb p_d.Down)] [(2, .box [.s (mI p_d.Synced), .s (mI p_d.Loose), vb p_d.Down])] Q3 J1 rfl ?_
 refine cn 9 (p_d.Down) rfl h (fun hb h => ?_) fun hb h => ?_
 ·refine sg ?_
  refine wE [(4, .v (.slice none 0 0)), (5, vi (40))] Q2 ?_
  refine rt ?_
  cases h
  exact (Fz.t (.cons Fz.nil (.cons Fz.v .nil)))
 refine sk ?_
 refine sq ?_
 obtain ⟨v1, hv1, h⟩ := bindS h
 refine Ok.seqw ⟨Cat.tab [(1, vi p_at), (2, .b 2 0), (15, vb v1)], [(2, .box [.s (mI p_d.Synced), .s (mI p_d.Loose), vb p_d.Down])]⟩ ?_ ?_
 ·refine rg ?_
  obtain ⟨c1, hg1, hv1⟩ := bindS hv1
  refine Br.itf hg1 (fun hb hg1 => ?_) fun hb hg1 => ?_
  ·cases hg1
   cases hv1
   exact wt Q3 J1 rfl
  cases hg1
  cases hv1
  exact wt Q3 J1 rfl
 refine cn 15 (v1) rfl h (fun hb h => ?_) fun hb h => ?_
 ·refine sg ?_
  refine wE [(4, .v (.slice none 0 0)), (5, vi (1))] Q2 ?_
  refine rt ?_
  cases h
  exact (Fz.t (.cons Fz.nil (.cons Fz.v .nil)))
 refine sk ?_
 refine Ok.seqj (fun v2 => ⟨Cat.tab [(1, vi p_at), (2, .b 2 0)], [(2, .box [.s (mI p_d.Synced), .s (mI p_d.Loose), vb p_d.Down])]⟩) (fun v2 => ref04_Read_J1 p_d p_at v2 = some r) ?_ ?_
 ·refine sg ?_
  obtain ⟨hc1, h⟩ := chk_some h
  refine ⟨_, rfl, _, List.length_map _, fun _ => (Or.inl ⟨hc1, ?_⟩)⟩
  refine wT [(1, vi p_at), (2, .b 2 0), (6, vi ((p_d.Loose.length : Int) - 1))] [(2, .box [.s (mI p_d.Synced), .s (mI p_d.Loose), vb p_d.Down])] Q3 J1 rfl ?_
  refine bl ?_
  refine Ok.loop (fun (s1 : Int) => ⟨Cat.tab [(1, vi p_at), (2, .b 2 0), (6, vi s1)], [(2, .box [.s (mI p_d.Synced), .s (mI p_d.Loose), vb p_d.Down])]⟩) (ref04_Read_B1 p_d p_at) (s0 := (p_d.Loose.length : Int) - 1) h (wt Q3 ⟨⟨_, rfl, .refl _⟩, Q0⟩ rfl) ?_
  intro s1 y1 hB1 hy1
  unfold ref04_Read_B1 at hB1
  refine sq ?_
  refine sg ?_
  refine wT [(1, vi p_at), (2, .b 2 0), (6, vi s1), (21, vb (decide (s1 ≥ 0)))] [(2, .box [.s (mI p_d.Synced), .s (mI p_d.Loose), vb p_d.Down])] Q4 J1 rfl ?_
  refine cn 21 (decide (s1 ≥ 0)) rfl hB1 (fun hb hB1 => ?_) fun hb hB1 => ?_
  ·refine sk ?_
   refine sq ?_
   refine bl ?_
   refine sg ?_
   obtain ⟨x1, hx1, hB1⟩ := bindS hB1
   refine ⟨_, rfl, _, idx_nat hx1, _, idx_row hx1, _, rfl, ?_⟩
   refine wT [(1, vi p_at), (2, .b 2 0), (6, vi s1), (31, vb (x1.At == p_at))] [(2, .box [.s (mI p_d.Synced), .s (mI p_d.Loose), vb p_d.Down])] Q4 J1 rfl ?_
   refine cn 31 (x1.At == p_at) rfl hB1 (fun hb hB1 => ?_) fun hb hB1 => ?_
   ·refine sg ?_
    obtain ⟨x2, hx2, hB1⟩ := bindS hB1
    refine ⟨_, rfl, _, idx_nat hx2, _, idx_row hx2, _, rfl, ?_⟩
    refine wE [(4, .s (mU x2.Data)), (5, vi (0))] Q2 ?_
    refine rt ?_
    have hB1 := out_ret hB1 hy1
    cases hB1
    exact (Fz.t (.cons Fz.s (.cons Fz.v .nil)))
   refine sk ?_
   refine rg ?_
   obtain ⟨hc2, hB1⟩ := chk_some hB1
   refine (Or.inl ⟨hc2, ?_⟩)
   exact ⟨_, sj hB1, wt Q3 J1 rfl⟩
  refine xt ?_
  have hB1 := out_ret hB1 hy1
  exact ⟨_, hB1, wt Q2 ⟨⟨_, rfl, .refl _⟩, Q0⟩ rfl⟩
 intro v2 h
 unfold ref04_Read_J1 at h
 refine Ok.seqj (fun v3 => ⟨Cat.tab [], []⟩) (fun v3 => ref04_Read_J2 v3 = some r) ?_ ?_
 ·refine sg ?_
  refine wT [(1, vi p_at), (2, .b 2 0), (7, vi (0))] [(2, .box [.s (mI p_d.Synced), .s (mI p_d.Loose), vb p_d.Down])] Q3 J1 rfl ?_
  refine bl ?_
  refine Ok.loop (fun (s2 : Int) => ⟨Cat.tab [(1, vi p_at), (2, .b 2 0), (7, vi s2)], [(2, .box [.s (mI p_d.Synced), .s (mI p_d.Loose), vb p_d.Down])]⟩) (ref04_Read_B2 p_d p_at) (s0 := 0) h (wt Q3 ⟨⟨_, rfl, .refl _⟩, Q0⟩ rfl) ?_
  intro s2 y2 hB2 hy2
  unfold ref04_Read_B2 at hB2
  refine sq ?_
  refine sg ?_
  refine ⟨_, rfl, _, List.length_map _, fun _ => ?_⟩
  refine wT [(1, vi p_at), (2, .b 2 0), (7, vi s2), (42, vb (decide (s2 < (p_d.Synced.length : Int))))] [(2, .box [.s (mI p_d.Synced), .s (mI p_d.Loose), vb p_d.Down])] Q4 J1 rfl ?_
  refine cn 42 (decide (s2 < (p_d.Synced.length : Int))) rfl hB2 (fun hb hB2 => ?_) fun hb hB2 => ?_
  ·refine sk ?_
   refine sq ?_
   refine bl ?_
   refine sg ?_
   obtain ⟨x3, hx3, hB2⟩ := bindS hB2
   refine ⟨_, rfl, _, idx_nat hx3, _, idx_row hx3, _, rfl, ?_⟩
   refine wT [(1, vi p_at), (2, .b 2 0), (7, vi s2), (52, vb (x3.At == p_at))] [(2, .box [.s (mI p_d.Synced), .s (mI p_d.Loose), vb p_d.Down])] Q4 J1 rfl ?_
   refine cn 52 (x3.At == p_at) rfl hB2 (fun hb hB2 => ?_) fun hb hB2 => ?_
   ·refine sg ?_
    obtain ⟨x4, hx4, hB2⟩ := bindS hB2
    refine ⟨_, rfl, _, idx_nat hx4, _, idx_row hx4, _, rfl, ?_⟩
    refine wE [(4, .s (mU x4.Data)), (5, vi (0))] Q2 ?_
    refine rt ?_
    have hB2 := out_ret hB2 hy2
    cases hB2
    exact (Fz.t (.cons Fz.s (.cons Fz.v .nil)))
   refine sk ?_
   refine rg ?_
   obtain ⟨hc3, hB2⟩ := chk_some hB2
   refine (Or.inl ⟨hc3, ?_⟩)
   exact ⟨_, sj hB2, wt Q3 J1 rfl⟩
  refine xt ?_
  have hB2 := out_ret hB2 hy2
  exact ⟨_, hB2, wt Q0 Q0 rfl⟩
 intro v3 h
 unfold ref04_Read_J2 at h
 refine sg ?_
 refine wE [(4, .v (.slice none 0 0)), (5, vi (41))] Q2 ?_
 refine rt ?_
 cases h
 exact (Fz.t (.cons Fz.nil (.cons Fz.v .nil)))
theorem w_ref01_zag {p_u} {r} (h : ref01_zag p_u = some r) : Pure Tryz.prog 169 [(.v (.int .u64 p_u))] (vi r) := by
 refine po Tryz.tok 14 Tryz.func169 (by kernel_rfl) rfl rfl rfl ?_
 unfold ref01_zag at h
 refine wE [(0, .v (.int .u64 p_u))] Q1 ?_
 refine sg ?_
 refine wE [(0, .v (.int .u64 p_u))] Q1 ?_
 refine sq ?_
 refine sg ?_
 refine ⟨(by decide), _, rfl, ?_⟩
 refine wE [(0, .v (.int .u64 p_u)), (5, vb ((Int.tmod p_u (2)) == 1))] Q2 ?_
 refine cn 5 ((Int.tmod p_u (2)) == 1) rfl h (fun hb h => ?_) fun hb h => ?_
 ·refine sg ?_
  obtain ⟨hc1, h⟩ := chk_some h
  obtain ⟨hc2, h⟩ := chk_some h
  refine ⟨(by decide), _, rfl, _, rfl, _, InI64.wrap hc1, (Or.inl ⟨hc2, ?_⟩)⟩
  refine wE [(2, vi ((0 - (IntKind.i64.wrap (quoK .u64 p_u (2)))) - 1))] Q1 ?_
  refine rt ?_
  cases h
  exact Fz.v
 refine sk ?_
 refine sg ?_
 refine ⟨(by decide), _, rfl, _, rfl, ?_⟩
 refine wE [(2, vi (IntKind.i64.wrap (quoK .u64 p_u (2))))] Q1 ?_
 refine rt ?_
 cases h
 exact Fz.v
theorem w_ref01_ReadInt {p_b} {r} (h : ref01_ReadInt p_b = some r) : Pure Tryz.prog 134 [(.s (mU p_b))] (.t [(vi r.1), (.s (mU r.2.1)), (vi r.2.2)]) := by
 refine po Tryz.tok 61 Tryz.func134 (by kernel_rfl) rfl rfl rfl ?_
 unfold ref01_ReadInt at h
 refine wE [(0, .s (mU p_b))] Q1 ?_
 refine sg ?_
 refine wE [(0, .s (mU p_b))] Q1 ?_
 refine sg ?_
 refine wE [(0, .s (mU p_b)), (5, .v (.int .u64 (0)))] Q2 ?_
 refine sg ?_
 refine wE [(0, .s (mU p_b)), (5, .v (.int .u64 (0))), (6, .v (.int .u64 (1)))] Q3 ?_
 refine Ok.seqj (fun v1 => ⟨Cat.tab [], []⟩) (fun v1 => ref01_ReadInt_J1 v1 = some r) ?_ ?_
 ·refine sg ?_
  refine wE [(0, .s (mU p_b)), (5, .v (.int .u64 (0))), (6, .v (.int .u64 (1))), (7, vi (0))] Q4 ?_
  refine bl ?_
  refine Ok.loop (fun (s1 : Int × Int × Int) => ⟨Cat.tab [(0, .s (mU p_b)), (5, .v (.int .u64 s1.1)), (6, .v (.int .u64 s1.2.1)), (7, vi s1.2.2)], []⟩) (ref01_ReadInt_B1 p_b) (s0 := (0, 1, 0)) h (wt Q4 Q0 rfl) ?_
  intro s1 y1 hB1 hy1
  unfold ref01_ReadInt_B1 at hB1
  refine sq ?_
  obtain ⟨v2, hv2, hB1⟩ := bindS hB1
  refine Ok.seqw ⟨Cat.tab [(0, .s (mU p_b)), (5, .v (.int .u64 s1.1)), (6, .v (.int .u64 s1.2.1)), (7, vi s1.2.2), (16, vb v2)], []⟩ ?_ ?_
  ·refine rg ?_
   refine ⟨_, List.length_map _, fun _ => ?_⟩
   obtain ⟨c1, hg1, hv2⟩ := bindS hv2
   refine Br.ite hg1 (fun hb hg1 => ?_) fun hb hg1 => ?_
   ·cases hg1
    cases hv2
    exact wt Q5 Q0 rfl
   cases hg1
   cases hv2
   exact wt Q5 Q0 rfl
  refine cn 16 (v2) rfl hB1 (fun hb hB1 => ?_) fun hb hB1 => ?_
  ·refine sk ?_
   refine sq ?_
   refine bl ?_
   refine sg ?_
   obtain ⟨x1, hx1, hB1⟩ := bindS hB1
   refine ⟨_, idx_nat hx1, _, idx_row hx1, _, rfl, (by decide), _, b8_rem _ _, _, wrap_of_u8 (k := .u64) (by decide) _, ?_⟩
   refine wE [(0, .s (mU p_b)), (5, .v (.int .u64 s1.1)), (6, .v (.int .u64 s1.2.1)), (7, vi s1.2.2), (8, .v (.int .u64 ((toU8 (Int.tmod (x1.toNat : Int) (128))).toNat : Int)))] Q5 ?_
   refine sq ?_
   obtain ⟨v3, hv3, hB1⟩ := bindS hB1
   refine Ok.seqw ⟨Cat.tab [(0, .s (mU p_b)), (5, .v (.int .u64 s1.1)), (6, .v (.int .u64 s1.2.1)), (7, vi s1.2.2), (8, .v (.int .u64 ((toU8 (Int.tmod (x1.toNat : Int) (128))).toNat : Int))), (33, vb v3)], []⟩ ?_ ?_
   ·refine rg ?_
    obtain ⟨c2, hg2, hv3⟩ := bindS hv3
    refine Br.ite hg2 (fun hb hg2 => ?_) fun hb hg2 => ?_
    ·obtain ⟨x2, hx2, hg2⟩ := bindS hg2
     refine ⟨_, idx_nat hx2, _, idx_row hx2, _, rfl, ?_⟩
     cases hg2
     cases hv3
     exact wt Q6 Q0 rfl
    cases hg2
    cases hv3
    exact wt Q6 Q0 rfl
   refine cn 33 (v3) rfl hB1 (fun hb hB1 => ?_) fun hb hB1 => ?_
   ·refine sg ?_
    refine wE [(2, vi (0)), (3, .v (.slice none 0 0)), (4, vi (11))] Q3 ?_
    refine rt ?_
    have hB1 := out_ret hB1 hy1
    cases hB1
    exact (Fz.t (.cons Fz.v (.cons Fz.nil (.cons Fz.v .nil))))
   refine sk ?_
   refine sg ?_
   refine ⟨_, rfl, _, rfl, ?_⟩
   refine wE [(0, .s (mU p_b)), (5, .v (.int .u64 (IntKind.u64.wrap (s1.1 + (IntKind.u64.wrap (s1.2.1 * ((toU8 (Int.tmod (x1.toNat : Int) (128))).toNat : Int))))))), (6, .v (.int .u64 s1.2.1)), (7, vi s1.2.2)] Q4 ?_
   refine sg ?_
   refine ⟨_, rfl, ?_⟩
   refine wE [(0, .s (mU p_b)), (5, .v (.int .u64 (IntKind.u64.wrap (s1.1 + (IntKind.u64.wrap (s1.2.1 * ((toU8 (Int.tmod (x1.toNat : Int) (128))).toNat : Int))))))), (6, .v (.int .u64 (IntKind.u64.wrap (s1.2.1 * 128)))), (7, vi s1.2.2)] Q4 ?_
   refine sg ?_
   obtain ⟨x3, hx3, hB1⟩ := bindS hB1
   refine ⟨_, idx_nat hx3, _, idx_row hx3, _, rfl, ?_⟩
   refine wE [(0, .s (mU p_b)), (5, .v (.int .u64 (IntKind.u64.wrap (s1.1 + (IntKind.u64.wrap (s1.2.1 * ((toU8 (Int.tmod (x1.toNat : Int) (128))).toNat : Int))))))), (6, .v (.int .u64 (IntKind.u64.wrap (s1.2.1 * 128)))), (7, vi s1.2.2), (45, vb (decide ((x3.toNat : Int) < 128)))] Q5 ?_
   refine cn 45 (decide ((x3.toNat : Int) < 128)) rfl hB1 (fun hb hB1 => ?_) fun hb hB1 => ?_
   ·refine sq ?_
    obtain ⟨v4, hv4, hB1⟩ := bindS hB1
    refine Ok.seqw ⟨Cat.tab [(0, .s (mU p_b)), (5, .v (.int .u64 (IntKind.u64.wrap (s1.1 + (IntKind.u64.wrap (s1.2.1 * ((toU8 (Int.tmod (x1.toNat : Int) (128))).toNat : Int))))))), (7, vi s1.2.2), (54, vb v4)], []⟩ ?_ ?_
    ·refine rg ?_
     obtain ⟨c3, hg3, hv4⟩ := bindS hv4
     refine Br.ite hg3 (fun hb hg3 => ?_) fun hb hg3 => ?_
     ·obtain ⟨x4, hx4, hg3⟩ := bindS hg3
      refine ⟨_, idx_nat hx4, _, idx_row hx4, _, rfl, ?_⟩
      cases hg3
      cases hv4
      exact wt Q4 Q0 rfl
     cases hg3
     cases hv4
     exact wt Q4 Q0 rfl
    refine cn 54 (v4) rfl hB1 (fun hb hB1 => ?_) fun hb hB1 => ?_
    ·refine sg ?_
     refine wE [(2, vi (0)), (3, .v (.slice none 0 0)), (4, vi (11))] Q3 ?_
     refine rt ?_
     have hB1 := out_ret hB1 hy1
     cases hB1
     exact (Fz.t (.cons Fz.v (.cons Fz.nil (.cons Fz.v .nil))))
    refine sk ?_
    refine sq ?_
    refine Ok.draw (m := 9) (MD := ⟨[]⟩) (CH := ⟨[]⟩) Tryz.tok Tryz.mixed (by kernel_rfl) ?_
    obtain ⟨x5, hx5, hB1⟩ := bindS hB1
    obtain ⟨hc1, hB1⟩ := chk_some hB1
    obtain ⟨hc2, hB1⟩ := chk_some hB1
    refine ⟨_, rfl, _, ⟨_, .of_pure (w_ref01_zag hx5) (LeL.refl _), rfl⟩, _, rfl, _, rfl, _, Or.inl ⟨hc1, rfl⟩, _, ⟨_, sl_nat hc2.1, sl_len hc2, Nat.le_refl _, rowsK (f := cU8) (K := 1) (fun _ => rfl) p_b, _, sl_drop _ _ _, rfl⟩, _, rfl, _, rfl, _, rfl, Q0, ?_⟩
    refine wE [(2, vi x5), (3, .s (mU (p_b.drop (s1.2.2 + 1).toNat))), (4, vi (0))] Q3 ?_
    refine rt ?_
    have hB1 := out_ret hB1 hy1
    cases hB1
    exact (Fz.t (.cons Fz.v (.cons Fz.s (.cons Fz.v .nil))))
   refine sk ?_
   refine rg ?_
   obtain ⟨hc3, hB1⟩ := chk_some hB1
   refine (Or.inl ⟨hc3, ?_⟩)
   exact ⟨_, sj hB1, wt Q4 Q0 rfl⟩
  refine xt ?_
  have hB1 := out_ret hB1 hy1
  exact ⟨_, hB1, wt Q0 Q0 rfl⟩
 intro v1 h
 unfold ref01_ReadInt_J1 at h
 refine sg ?_
 refine wE [(2, vi (0)), (3, .v (.slice none 0 0)), (4, vi (10))] Q3 ?_
 refine rt ?_
 cases h
 exact (Fz.t (.cons Fz.v (.cons Fz.nil (.cons Fz.v .nil))))
theorem w_ref01_count {p_b} {r} (h : ref01_count p_b = some r) : Pure Tryz.prog 170 [(.s (mU p_b))] (.t [(vi r.1), (.s (mU r.2.1)), (vi r.2.2)]) := by
 refine po Tryz.tok 25 Tryz.func170 (by kernel_rfl) rfl rfl rfl ?_
 unfold ref01_count at h
 refine wE [(0, .s (mU p_b))] Q1 ?_
 refine sg ?_
 refine wE [(0, .s (mU p_b))] Q1 ?_
 refine sg ?_
 obtain ⟨x1, hx1, h⟩ := bindS h
 refine CallOk.call (w_ref01_ReadInt hx1) (LeL.refl _) ?_
 refine wE [(5, vi x1.1), (6, .s (mU x1.2.1)), (7, vi x1.2.2)] Q3 ?_
 refine sq ?_
 refine sg ?_
 refine wE [(5, vi x1.1), (6, .s (mU x1.2.1)), (7, vi x1.2.2), (15, vb (x1.2.2 != 0))] Q4 ?_
 refine cn 15 (x1.2.2 != 0) rfl h (fun hb h => ?_) fun hb h => ?_
 ·refine sg ?_
  refine wE [(2, vi (0)), (3, .v (.slice none 0 0)), (4, vi x1.2.2)] Q3 ?_
  refine rt ?_
  cases h
  exact (Fz.t (.cons Fz.v (.cons Fz.nil (.cons Fz.v .nil))))
 refine sk ?_
 refine sq ?_
 refine sg ?_
 refine wE [(5, vi x1.1), (6, .s (mU x1.2.1)), (18, vb (decide (x1.1 < 0)))] Q3 ?_
 refine cn 18 (decide (x1.1 < 0)) rfl h (fun hb h => ?_) fun hb h => ?_
 ·refine sg ?_
  refine wE [(2, vi (0)), (3, .v (.slice none 0 0)), (4, vi (11))] Q3 ?_
  refine rt ?_
  cases h
  exact (Fz.t (.cons Fz.v (.cons Fz.nil (.cons Fz.v .nil))))
 refine sk ?_
 refine sq ?_
 refine sg ?_
 refine ⟨_, List.length_map _, fun _ => ?_⟩
 refine wE [(5, vi x1.1), (6, .s (mU x1.2.1)), (22, vb (decide (x1.1 > (x1.2.1.length : Int))))] Q3 ?_
 refine cn 22 (decide (x1.1 > (x1.2.1.length : Int))) rfl h (fun hb h => ?_) fun hb h => ?_
 ·refine sg ?_
  refine wE [(2, vi (0)), (3, .v (.slice none 0 0)), (4, vi (10))] Q3 ?_
  refine rt ?_
  cases h
  exact (Fz.t (.cons Fz.v (.cons Fz.nil (.cons Fz.v .nil))))
 refine sk ?_
 refine sg ?_
 refine wE [(2, vi x1.1), (3, .s (mU x1.2.1)), (4, vi (0))] Q3 ?_
 refine rt ?_
 cases h
 exact (Fz.t (.cons Fz.v (.cons Fz.s (.cons Fz.v .nil))))
theorem w_ref01_ReadStr {p_b} {r} (h : ref01_ReadStr p_b = some r) : Pure Tryz.prog 135 [(.s (mU p_b))] (.t [(vs r.1), (.s (mU r.2.1)), (vi r.2.2)]) := by
 refine po Tryz.tok 24 Tryz.func135 (by kernel_rfl) rfl rfl rfl ?_
 unfold ref01_ReadStr at h
 refine wE [(0, .s (mU p_b))] Q1 ?_
 refine sg ?_
 refine wE [(0, .s (mU p_b))] Q1 ?_
 refine sg ?_
 obtain ⟨x1, hx1, h⟩ := bindS h
 refine CallOk.call (w_ref01_count hx1) (LeL.refl _) ?_
 refine wE [(5, vi x1.1), (6, .s (mU x1.2.1)), (7, vi x1.2.2)] Q3 ?_
 refine sq ?_
 refine sg ?_
 refine wE [(5, vi x1.1), (6, .s (mU x1.2.1)), (7, vi x1.2.2), (15, vb (x1.2.2 != 0))] Q4 ?_
 refine cn 15 (x1.2.2 != 0) rfl h (fun hb h => ?_) fun hb h => ?_
 ·refine sg ?_
  refine wE [(2, vs ([])), (3, .v (.slice none 0 0)), (4, vi x1.2.2)] Q3 ?_
  refine rt ?_
  cases h
  exact (Fz.t (.cons Fz.v (.cons Fz.nil (.cons Fz.v .nil))))
 refine sk ?_
 refine sq ?_
 refine Ok.draw (m := 10) (MD := ⟨[]⟩) (CH := ⟨[]⟩) Tryz.tok Tryz.mixed (by kernel_rfl) ?_
 obtain ⟨hc1, h⟩ := chk_some h
 obtain ⟨hc2, h⟩ := chk_some h
 refine ⟨_, rfl, _, rfl, _, ⟨_, sl_nat hc1.1, Nat.zero_le _, sl_len hc1, rowsK (f := cU8) (K := 1) (fun _ => rfl) x1.2.1, _, sl_take _ _ _, rfl⟩, _, ⟨_, rfl, rfl⟩, _, rfl, _, rfl, _, ⟨_, sl_nat hc2.1, sl_len hc2, Nat.le_refl _, rowsK (f := cU8) (K := 1) (fun _ => rfl) x1.2.1, _, sl_drop _ _ _, rfl⟩, _, rfl, _, rfl, _, rfl, Q0, ?_⟩
 refine wE [(2, vs (x1.2.1.take x1.1.toNat)), (3, .s (mU (x1.2.1.drop x1.1.toNat))), (4, vi (0))] Q3 ?_
 refine rt ?_
 cases h
 exact (Fz.t (.cons Fz.v (.cons Fz.s (.cons Fz.v .nil))))
theorem w_ref01_ReadInts {p_b} {r} (h : ref01_ReadInts p_b = some r) : Pure Tryz.prog 136 [(.s (mU p_b))] (.t [(.s (mA r.1)), (.s (mU r.2.1)), (vi r.2.2)]) := by
 refine po Tryz.tok 44 Tryz.func136 (by kernel_rfl) rfl rfl rfl ?_
 unfold ref01_ReadInts at h
 refine wE [(0, .s (mU p_b))] Q1 ?_
 refine sg ?_
 refine wE [(0, .s (mU p_b))] Q1 ?_
 refine sg ?_
 refine Or.inr ?_
 refine wT [(0, .s (mU p_b)), (5, .o 13)] [(13, .own 3 1 (mA ([] : List Int)))] Q2 J1 rfl ?_
 refine sg ?_
 obtain ⟨x1, hx1, h⟩ := bindS h
 refine CallOk.call (w_ref01_count hx1) (LeL.refl _) ?_
 refine wT [(5, .o 13), (6, vi x1.1), (7, .s (mU x1.2.1)), (8, vi x1.2.2)] [(13, .own 3 1 (mA ([] : List Int)))] Q4 J1 rfl ?_
 refine sq ?_
 refine sg ?_
 refine wT [(5, .o 13), (6, vi x1.1), (7, .s (mU x1.2.1)), (8, vi x1.2.2), (21, vb (x1.2.2 != 0))] [(13, .own 3 1 (mA ([] : List Int)))] Q5 J1 rfl ?_
 refine cn 21 (x1.2.2 != 0) rfl h (fun hb h => ?_) fun hb h => ?_
 ·refine sg ?_
  refine wE [(2, .v (.slice none 0 0)), (3, .v (.slice none 0 0)), (4, vi x1.2.2)] Q3 ?_
  refine rt ?_
  cases h
  exact (Fz.t (.cons Fz.nil (.cons Fz.nil (.cons Fz.v .nil))))
 refine sk ?_
 refine Ok.seqj (fun v1 => ⟨Cat.tab [(5, .o 13), (7, .s (mU v1.1))], [(13, .own 3 1 (mA v1.2))]⟩) (fun v1 => ref01_ReadInts_J1 v1 = some r) ?_ ?_
 ·refine sg ?_
  refine wT [(5, .o 13), (6, vi x1.1), (7, .s (mU x1.2.1)), (9, vi (0))] [(13, .own 3 1 (mA ([] : List Int)))] Q4 J1 rfl ?_
  refine bl ?_
  refine Ok.loop (fun (s1 : (List UInt8) × Int × (List Int)) => ⟨Cat.tab [(5, .o 13), (6, vi x1.1), (7, .s (mU s1.1)), (9, vi s1.2.1)], [(13, .own 3 1 (mA s1.2.2))]⟩) (ref01_ReadInts_B1 x1) (s0 := (x1.2.1, 0, ([] : List Int))) h (wt Q4 ⟨⟨_, rfl, .refl _⟩, Q0⟩ rfl) ?_
  intro s1 y1 hB1 hy1
  unfold ref01_ReadInts_B1 at hB1
  refine sq ?_
  refine sg ?_
  refine wT [(5, .o 13), (6, vi x1.1), (7, .s (mU s1.1)), (9, vi s1.2.1), (25, vb (decide (s1.2.1 < x1.1)))] [(13, .own 3 1 (mA s1.2.2))] Q5 J1 rfl ?_
  refine cn 25 (decide (s1.2.1 < x1.1)) rfl hB1 (fun hb hB1 => ?_) fun hb hB1 => ?_
  ·refine sk ?_
   refine sq ?_
   refine bl ?_
   refine sg ?_
   obtain ⟨x2, hx2, hB1⟩ := bindS hB1
   refine CallOk.call (w_ref01_ReadInt hx2) (LeL.refl _) ?_
   refine wT [(5, .o 13), (6, vi x1.1), (9, vi s1.2.1), (10, vi x2.1), (11, .s (mU x2.2.1)), (12, vi x2.2.2)] [(13, .own 3 1 (mA s1.2.2))] Q6 J1 rfl ?_
   refine sq ?_
   refine sg ?_
   refine wT [(5, .o 13), (6, vi x1.1), (9, vi s1.2.1), (10, vi x2.1), (11, .s (mU x2.2.1)), (12, vi x2.2.2), (35, vb (x2.2.2 != 0))] [(13, .own 3 1 (mA s1.2.2))] Q7 J1 rfl ?_
   refine cn 35 (x2.2.2 != 0) rfl hB1 (fun hb hB1 => ?_) fun hb hB1 => ?_
   ·refine sg ?_
    refine wE [(2, .v (.slice none 0 0)), (3, .v (.slice none 0 0)), (4, vi x2.2.2)] Q3 ?_
    refine rt ?_
    have hB1 := out_ret hB1 hy1
    cases hB1
    exact (Fz.t (.cons Fz.nil (.cons Fz.nil (.cons Fz.v .nil))))
   refine sk ?_
   refine sg ?_
   obtain ⟨hc1, hB1⟩ := chk_some hB1
   refine Or.inl ⟨rowsLen_map (f := Go.Cat.encI) (n := 1) (fun _ => rfl) ([x2.1]), app_b2 (f := Go.Cat.encI) (l := s1.2.2) (l' := [x2.1]) hc1, _, (List.map_append (f := Go.Cat.encI) (l₁ := s1.2.2) (l₂ := [x2.1])).symm, ?_⟩
   refine wT [(5, .o 13), (6, vi x1.1), (9, vi s1.2.1), (11, .s (mU x2.2.1))] [(13, .own 3 1 (mA (s1.2.2 ++ [x2.1])))] Q4 J1 rfl ?_
   refine rg ?_
   refine wT [(5, .o 13), (6, vi x1.1), (7, .s (mU x2.2.1)), (9, vi s1.2.1)] [(13, .own 3 1 (mA (s1.2.2 ++ [x2.1])))] Q4 J1 rfl ?_
   refine rg ?_
   obtain ⟨hc2, hB1⟩ := chk_some hB1
   refine (Or.inl ⟨hc2, ?_⟩)
   exact ⟨_, sj hB1, wt Q4 J1 rfl⟩
  refine xt ?_
  have hB1 := out_ret hB1 hy1
  exact ⟨_, hB1, wt Q2 ⟨⟨_, rfl, .refl _⟩, Q0⟩ rfl⟩
 intro v1 h
 unfold ref01_ReadInts_J1 at h
 refine sg ?_
 refine wT [(2, .o 13), (3, .s (mU v1.1)), (4, vi (0))] [(13, .own 3 1 (mA v1.2))] Q3 J1 rfl ?_
 refine rt ?_
 cases h
 exact (Fz.t (.cons (Fz.o rfl) (.cons Fz.s (.cons Fz.v .nil))))
theorem w_ref25_parsed {p_b} {r} (h : ref25_parsed p_b = some r) : Pure Tryz.prog 95 [(.s (mU p_b))] (.t [(.a [(vi r.1.Id), (vi r.1.Ver), (.s (mU r.1.Data)), (.s (mA r.1.Sums))]), (vb r.2)]) := by
 refine po Tryz.tok 63 Tryz.func95 (by kernel_rfl) rfl rfl rfl ?_
 unfold ref25_parsed at h
 refine wE [(0, .s (mU p_b))] Q1 ?_
 refine sg ?_
 refine wT [(0, .s (mU p_b)), (2, .b 2 0)] [(2, .box [vi (0), vi (0), .v (.slice none 0 0), .v (.slice none 0 0)])] Q2 J1 rfl ?_
 refine sg ?_
 obtain ⟨x1, hx1, h⟩ := bindS h
 refine CallOk.call (w_ref01_ReadInt hx1) (LeL.refl _) ?_
 refine wT [(2, .b 2 0), (4, vi x1.1), (5, .s (mU x1.2.1)), (6, vi x1.2.2)] [(2, .box [vi (0), vi (0), .v (.slice none 0 0), .v (.slice none 0 0)])] Q4 J1 rfl ?_
 refine sq ?_
 refine sg ?_
 refine wT [(2, .b 2 0), (4, vi x1.1), (5, .s (mU x1.2.1)), (23, vb (x1.2.2 != 0))] [(2, .box [vi (0), vi (0), .v (.slice none 0 0), .v (.slice none 0 0)])] Q4 J1 rfl ?_
 refine cn 23 (x1.2.2 != 0) rfl h (fun hb h => ?_) fun hb h => ?_
 ·refine sg ?_
  refine ⟨_, rfl, ?_⟩
  refine wT [(2, .b 2 0), (3, vb false)] [(2, .box [vi (0), vi (0), .v (.slice none 0 0), .v (.slice none 0 0)])] Q2 J1 rfl ?_
  refine rt ?_
  cases h
  exact ⟨_, rfl, (Fz.t (.cons (Fz.a (.cons Fz.v (.cons Fz.v (.cons Fz.nil (.cons Fz.nil .nil))))) (.cons Fz.v .nil)))⟩
 refine sk ?_
 refine sg ?_
 obtain ⟨x2, hx2, h⟩ := bindS h
 refine CallOk.call (w_ref01_ReadInt hx2) (LeL.refl _) ?_
 refine wT [(2, .b 2 0), (4, vi x1.1), (7, vi x2.1), (8, .s (mU x2.2.1)), (9, vi x2.2.2)] [(2, .box [vi (0), vi (0), .v (.slice none 0 0), .v (.slice none 0 0)])] Q5 J1 rfl ?_
 refine sq ?_
 refine sg ?_
 refine wT [(2, .b 2 0), (4, vi x1.1), (7, vi x2.1), (8, .s (mU x2.2.1)), (32, vb (x2.2.2 != 0))] [(2, .box [vi (0), vi (0), .v (.slice none 0 0), .v (.slice none 0 0)])] Q5 J1 rfl ?_
 refine cn 32 (x2.2.2 != 0) rfl h (fun hb h => ?_) fun hb h => ?_
 ·refine sg ?_
  refine ⟨_, rfl, ?_⟩
  refine wT [(2, .b 2 0), (3, vb false)] [(2, .box [vi (0), vi (0), .v (.slice none 0 0), .v (.slice none 0 0)])] Q2 J1 rfl ?_
  refine rt ?_
  cases h
  exact ⟨_, rfl, (Fz.t (.cons (Fz.a (.cons Fz.v (.cons Fz.v (.cons Fz.nil (.cons Fz.nil .nil))))) (.cons Fz.v .nil)))⟩
 refine sk ?_
 refine sg ?_
 obtain ⟨x3, hx3, h⟩ := bindS h
 refine CallOk.call (w_ref01_ReadStr hx3) (LeL.refl _) ?_
 refine wT [(2, .b 2 0), (4, vi x1.1), (7, vi x2.1), (10, vs x3.1), (11, .s (mU x3.2.1)), (12, vi x3.2.2)] [(2, .box [vi (0), vi (0), .v (.slice none 0 0), .v (.slice none 0 0)])] Q6 J1 rfl ?_
 refine sq ?_
 refine sg ?_
 refine wT [(2, .b 2 0), (4, vi x1.1), (7, vi x2.1), (10, vs x3.1), (11, .s (mU x3.2.1)), (41, vb (x3.2.2 != 0))] [(2, .box [vi (0), vi (0), .v (.slice none 0 0), .v (.slice none 0 0)])] Q6 J1 rfl ?_
 refine cn 41 (x3.2.2 != 0) rfl h (fun hb h => ?_) fun hb h => ?_
 ·refine sg ?_
  refine ⟨_, rfl, ?_⟩
  refine wT [(2, .b 2 0), (3, vb false)] [(2, .box [vi (0), vi (0), .v (.slice none 0 0), .v (.slice none 0 0)])] Q2 J1 rfl ?_
  refine rt ?_
  cases h
  exact ⟨_, rfl, (Fz.t (.cons (Fz.a (.cons Fz.v (.cons Fz.v (.cons Fz.nil (.cons Fz.nil .nil))))) (.cons Fz.v .nil)))⟩
 refine sk ?_
 refine sg ?_
 obtain ⟨x4, hx4, h⟩ := bindS h
 refine CallOk.call (w_ref01_ReadInts hx4) (LeL.refl _) ?_
 refine wT [(2, .b 2 0), (4, vi x1.1), (7, vi x2.1), (10, vs x3.1), (13, .s (mA x4.1)), (14, .s (mU x4.2.1)), (15, vi x4.2.2)] [(2, .box [vi (0), vi (0), .v (.slice none 0 0), .v (.slice none 0 0)])] Q7 J1 rfl ?_
 refine sq ?_
 obtain ⟨v1, hv1, h⟩ := bindS h
 refine Ok.seqw ⟨Cat.tab [(2, .b 2 0), (4, vi x1.1), (7, vi x2.1), (10, vs x3.1), (13, .s (mA x4.1)), (55, vb v1)], [(2, .box [vi (0), vi (0), .v (.slice none 0 0), .v (.slice none 0 0)])]⟩ ?_ ?_
 ·refine rg ?_
  obtain ⟨c1, hg1, hv1⟩ := bindS hv1
  refine Br.itf hg1 (fun hb hg1 => ?_) fun hb hg1 => ?_
  ·cases hg1
   cases hv1
   exact wt Q6 J1 rfl
  refine ⟨_, List.length_map _, fun _ => ?_⟩
  cases hg1
  cases hv1
  exact wt Q6 J1 rfl
 refine cn 55 (v1) rfl h (fun hb h => ?_) fun hb h => ?_
 ·refine sg ?_
  refine ⟨_, rfl, ?_⟩
  refine wT [(2, .b 2 0), (3, vb false)] [(2, .box [vi (0), vi (0), .v (.slice none 0 0), .v (.slice none 0 0)])] Q2 J1 rfl ?_
  refine rt ?_
  cases h
  exact ⟨_, rfl, (Fz.t (.cons (Fz.a (.cons Fz.v (.cons Fz.v (.cons Fz.nil (.cons Fz.nil .nil))))) (.cons Fz.v .nil)))⟩
 refine sk ?_
 refine sg ?_
 obtain ⟨hc1, h⟩ := chk_some h
 refine ⟨str_max hc1, _, rfl, ?_⟩
 refine wT [(2, .b 2 0), (3, vb true)] [(2, .box [vi x1.1, vi x2.1, .s (mU x3.1), .s (mA x4.1)])] Q2 J1 rfl ?_
 refine rt ?_
 cases h
 exact ⟨_, rfl, (Fz.t (.cons (Fz.imm rfl) (.cons Fz.v .nil)))⟩
theorem w_ref02_turned {p_a} {p_b} {r} (h : ref02_turned p_a p_b = some r) : Pure Tryz.prog 173 [(vi p_a), (vi p_b)] (vi r) := by
 refine po Tryz.tok 8 Tryz.func173 (by kernel_rfl) rfl rfl rfl ?_
 unfold ref02_turned at h
 refine wE [(0, vi p_a), (1, vi p_b)] Q2 ?_
 refine sg ?_
 refine wE [(0, vi p_a), (1, vi p_b)] Q2 ?_
 refine sg ?_
 refine ⟨_, rfl, ?_⟩
 refine wE [(4, vi (xorK .i64 p_a p_b))] Q1 ?_
 refine rt ?_
 cases h
 exact Fz.v
theorem w_ref02_Of {p_b} {r} (h : ref02_Of p_b = some r) : Pure Tryz.prog 141 [(.s (mU p_b))] (vi r) := by
 refine po Tryz.tok 34 Tryz.func141 (by kernel_rfl) rfl rfl rfl ?_
 unfold ref02_Of at h
 refine wE [(0, .s (mU p_b))] Q1 ?_
 refine sg ?_
 refine wE [(0, .s (mU p_b))] Q1 ?_
 refine sg ?_
 refine wE [(0, .s (mU p_b)), (3, vi (4294967295))] Q2 ?_
 obtain ⟨v1, hv1, h⟩ := bindS h
 refine Ok.seqw ⟨Cat.tab [(3, vi v1)], []⟩ ?_ ?_
 ·refine sg ?_
  refine wE [(0, .s (mU p_b)), (3, vi (4294967295)), (4, vi (0))] Q3 ?_
  refine bl ?_
  refine Ok.loop (fun (s1 : Int × Int) => ⟨Cat.tab [(0, .s (mU p_b)), (3, vi s1.1), (4, vi s1.2)], []⟩) (ref02_Of_B1 p_b) (s0 := (4294967295, 0)) hv1 (wt Q3 Q0 rfl) ?_
  intro s1 y1 hB1 hy1
  unfold ref02_Of_B1 at hB1
  refine sq ?_
  refine sg ?_
  refine ⟨_, List.length_map _, fun _ => ?_⟩
  refine wE [(0, .s (mU p_b)), (3, vi s1.1), (4, vi s1.2), (10, vb (decide (s1.2 < (p_b.length : Int))))] Q4 ?_
  refine cn 10 (decide (s1.2 < (p_b.length : Int))) rfl hB1 (fun hb hB1 => ?_) fun hb hB1 => ?_
  ·refine sk ?_
   obtain ⟨v2, hv2, hB1⟩ := bindS hB1
   refine Ok.seqw ⟨Cat.tab [(0, .s (mU p_b)), (3, vi v2), (4, vi s1.2)], []⟩ ?_ ?_
   ·refine bl ?_
    refine sg ?_
    obtain ⟨x1, hx1, hv2⟩ := bindS hv2
    obtain ⟨x2, hx2, hv2⟩ := bindS hv2
    refine ⟨_, idx_nat hx1, _, idx_row hx1, _, rfl, _, wrap_of_u8 (k := .i64) (by decide) _, ?_⟩
    refine CallOk.call (w_ref02_turned hx2) (LeL.refl _) ?_
    refine wE [(0, .s (mU p_b)), (3, vi x2), (4, vi s1.2)] Q3 ?_
    refine sg ?_
    refine wE [(0, .s (mU p_b)), (3, vi x2), (4, vi s1.2), (5, vi (0))] Q4 ?_
    refine bl ?_
    refine Ok.loop (fun (s2 : Int × Int) => ⟨Cat.tab [(0, .s (mU p_b)), (3, vi s2.1), (4, vi s1.2), (5, vi s2.2)], []⟩) (ref02_Of_B2) (s0 := (x2, 0)) hv2 (wt Q4 Q0 rfl) ?_
    intro s2 y2 hB2 hy2
    unfold ref02_Of_B2 at hB2
    refine sq ?_
    refine sg ?_
    refine wE [(0, .s (mU p_b)), (3, vi s2.1), (4, vi s1.2), (5, vi s2.2), (21, vb (decide (s2.2 < 8)))] Q5 ?_
    refine cn 21 (decide (s2.2 < 8)) rfl hB2 (fun hb hB2 => ?_) fun hb hB2 => ?_
    ·refine sk ?_
     obtain ⟨v3, hv3, hB2⟩ := bindS hB2
     refine Ok.seqw ⟨Cat.tab [(0, .s (mU p_b)), (3, vi v3), (4, vi s1.2), (5, vi s2.2)], []⟩ ?_ ?_
     ·refine bl ?_
      refine sg ?_
      refine ⟨(by decide), _, rfl, ?_⟩
      refine wE [(0, .s (mU p_b)), (3, vi s2.1), (4, vi s1.2), (5, vi s2.2), (6, vb ((Int.tmod s2.1 (2)) == 1))] Q5 ?_
      refine sg ?_
      refine ⟨(by decide), _, rfl, ?_⟩
      refine wE [(0, .s (mU p_b)), (3, vi (quoK .i64 s2.1 (2))), (4, vi s1.2), (5, vi s2.2), (6, vb ((Int.tmod s2.1 (2)) == 1))] Q5 ?_
      refine sg ?_
      refine wE [(0, .s (mU p_b)), (3, vi (quoK .i64 s2.1 (2))), (4, vi s1.2), (5, vi s2.2), (29, vb ((Int.tmod s2.1 (2)) == 1))] Q5 ?_
      refine cn 29 ((Int.tmod s2.1 (2)) == 1) rfl hv3 (fun hb hv3 => ?_) fun hb hv3 => ?_
      ·refine rg ?_
       obtain ⟨x3, hx3, hv3⟩ := bindS hv3
       refine CallOk.call (w_ref02_turned hx3) (LeL.refl _) ?_
       cases hv3
       exact wt Q4 Q0 rfl
      refine sk ?_
      cases hv3
      exact wt Q4 Q0 rfl
     refine rg ?_
     obtain ⟨hc1, hB2⟩ := chk_some hB2
     refine (Or.inl ⟨hc1, ?_⟩)
     exact ⟨_, sj hB2, wt Q4 Q0 rfl⟩
    refine xt ?_
    have hB2 := out_ret hB2 hy2
    cases hB2
    exact wt Q3 Q0 rfl
   refine rg ?_
   obtain ⟨hc2, hB1⟩ := chk_some hB1
   refine (Or.inl ⟨hc2, ?_⟩)
   exact ⟨_, sj hB1, wt Q3 Q0 rfl⟩
  refine xt ?_
  have hB1 := out_ret hB1 hy1
  cases hB1
  exact wt Q1 Q0 rfl
 refine sg ?_
 obtain ⟨x4, hx4, h⟩ := bindS h
 refine CallOk.call (w_ref02_turned hx4) (LeL.refl _) ?_
 refine wE [(2, vi x4)] Q1 ?_
 refine rt ?_
 cases h
 exact Fz.v
theorem wo_ref02_Blocks {p_data} {r} (h : ref02_Blocks p_data = some r) : POwn Tryz.prog 171 [(.s (mU p_data))] 3 1 (mA r) := by
 refine pw Tryz.tok 24 Tryz.func171 (by kernel_rfl) rfl rfl rfl ?_
 unfold ref02_Blocks at h
 refine wE [(0, .s (mU p_data))] Q1 ?_
 refine sg ?_
 refine wE [(0, .s (mU p_data))] Q1 ?_
 refine sg ?_
 refine wE [(0, .s (mU p_data)), (3, .v (.slice none 0 0))] Q2 ?_
 obtain ⟨v1, hv1, h⟩ := bindS h
 refine Ok.seqw ⟨Cat.tab [(3, .o 22)], [(22, .own 3 1 (mA v1))]⟩ ?_ ?_
 ·refine sg ?_
  refine wE [(0, .s (mU p_data)), (3, .v (.slice none 0 0)), (4, vi (0))] Q3 ?_
  refine bl ?_
  refine Ok.loop (fun (s1 : Int × (List Int)) => ⟨Cat.tab [(0, .s (mU p_data)), (3, .o 22), (4, vi s1.1)], [(22, .own 3 1 (mA s1.2))]⟩) (ref02_Blocks_B1 p_data) (s0 := (0, [])) hv1 ((Wk.own0 (t := 3) (id := 22) (E := 3) (K := 1) rfl rfl).trans (wt Q3 ⟨⟨_, rfl, .refl _⟩, Q0⟩ rfl)) ?_
  intro s1 y1 hB1 hy1
  unfold ref02_Blocks_B1 at hB1
  refine sq ?_
  refine sg ?_
  refine ⟨_, List.length_map _, fun _ => ?_⟩
  refine wT [(0, .s (mU p_data)), (3, .o 22), (4, vi s1.1), (8, vb (decide (s1.1 < (p_data.length : Int))))] [(22, .own 3 1 (mA s1.2))] Q4 J1 rfl ?_
  refine cn 8 (decide (s1.1 < (p_data.length : Int))) rfl hB1 (fun hb hB1 => ?_) fun hb hB1 => ?_
  ·refine sk ?_
   refine sq ?_
   refine bl ?_
   refine rg ?_
   obtain ⟨hc1, hB1⟩ := chk_some hB1
   obtain ⟨hc2, hB1⟩ := chk_some hB1
   obtain ⟨x1, hx1, hB1⟩ := bindS hB1
   refine (Or.inl ⟨hc1, _, List.length_map _, fun _ => ⟨_, rfl, _, sl_nat hc2.1, _, sl_nat (sl_lh hc2), sl_le hc2, sl_len3 hc2, rowsK (f := cU8) (K := 1) (fun _ => rfl) p_data, _, sl_sub _ _ _ _, ?_⟩⟩)
   refine CallOk.call (w_ref02_Of hx1) (LeL.refl _) ?_
   obtain ⟨hc3, hB1⟩ := chk_some hB1
   refine Or.inl ⟨rowsLen_map (f := Go.Cat.encI) (n := 1) (fun _ => rfl) ([x1]), app_b2 (f := Go.Cat.encI) (l := s1.2) (l' := [x1]) hc3, _, (List.map_append (f := Go.Cat.encI) (l₁ := s1.2) (l₂ := [x1])).symm, ?_⟩
   refine wT [(0, .s (mU p_data)), (3, .o 22), (4, vi s1.1)] [(22, .own 3 1 (mA (s1.2 ++ [x1])))] Q3 J1 rfl ?_
   refine rg ?_
   obtain ⟨hc4, hB1⟩ := chk_some hB1
   refine (Or.inl ⟨hc4, ?_⟩)
   exact ⟨_, sj hB1, wt Q3 J1 rfl⟩
  refine xt ?_
  have hB1 := out_ret hB1 hy1
  cases hB1
  exact wt Q1 J1 rfl
 refine sg ?_
 refine wT [(2, .o 22)] [(22, .own 3 1 (mA v1))] Q1 J1 rfl ?_
 refine rt ?_
 cases h
 exact (.inr ⟨_, rfl, rfl⟩)
theorem w_ref02_Blocks {p_data} {r} (h : ref02_Blocks p_data = some r) : Pure Tryz.prog 171 [(.s (mU p_data))] (.s (mA r)) := (wo_ref02_Blocks h).pure
theorem w_ref02_Check {p_data} {p_sums} {r} (h : ref02_Check p_data p_sums = some r) : Pure Tryz.prog 137 [(.s (mU p_data)), (.s (mA p_sums))] (vi r) := by
 refine po Tryz.tok 43 Tryz.func137 (by kernel_rfl) rfl rfl rfl ?_
 unfold ref02_Check at h
 refine wE [(0, .s (mU p_data)), (1, .s (mA p_sums))] Q2 ?_
 refine sg ?_
 refine wE [(0, .s (mU p_data)), (1, .s (mA p_sums))] Q2 ?_
 refine sg ?_
 obtain ⟨x1, hx1, h⟩ := bindS h
 refine CallOk.call (w_ref02_Blocks hx1) (LeL.refl _) ?_
 refine wE [(1, .s (mA p_sums)), (5, .s (mA x1))] Q2 ?_
 refine Ok.seqj (fun v1 => ⟨Cat.tab [], []⟩) (fun v1 => ref02_Check_J1 v1 = some r) ?_ ?_
 ·refine sg ?_
  refine wE [(1, .s (mA p_sums)), (5, .s (mA x1)), (6, vi (0))] Q3 ?_
  refine bl ?_
  refine Ok.loop (fun (s1 : Int) => ⟨Cat.tab [(1, .s (mA p_sums)), (5, .s (mA x1)), (6, vi s1)], []⟩) (ref02_Check_B1 x1 p_sums) (s0 := 0) h (wt Q3 Q0 rfl) ?_
  intro s1 y1 hB1 hy1
  unfold ref02_Check_B1 at hB1
  refine sq ?_
  obtain ⟨v2, hv2, hB1⟩ := bindS hB1
  refine Ok.seqw ⟨Cat.tab [(1, .s (mA p_sums)), (5, .s (mA x1)), (6, vi s1), (18, vb v2)], []⟩ ?_ ?_
  ·refine rg ?_
   refine ⟨_, List.length_map _, fun _ => ?_⟩
   obtain ⟨c1, hg1, hv2⟩ := bindS hv2
   refine Br.itf hg1 (fun hb hg1 => ?_) fun hb hg1 => ?_
   ·cases hg1
    cases hv2
    exact wt Q4 Q0 rfl
   refine ⟨_, List.length_map _, fun _ => ?_⟩
   cases hg1
   cases hv2
   exact wt Q4 Q0 rfl
  refine cn 18 (v2) rfl hB1 (fun hb hB1 => ?_) fun hb hB1 => ?_
  ·refine sk ?_
   refine sq ?_
   refine bl ?_
   obtain ⟨v3, hv3, hB1⟩ := bindS hB1
   refine Ok.seqw ⟨Cat.tab [(1, .s (mA p_sums)), (5, .s (mA x1)), (6, vi s1), (41, vb v3)], []⟩ ?_ ?_
   ·refine Ok.draw (m := 21) (MD := ⟨[]⟩) (CH := ⟨[]⟩) Tryz.tok Tryz.mixed (by kernel_rfl) ?_
    refine ⟨_, rfl, _, rfl, _, ⟨_, List.length_map _, fun _ => rfl⟩, _, rfl, _, rfl, ?_⟩
    obtain ⟨c2, hg2, hv3⟩ := bindS hv3
    refine Br.itf hg2 (fun hb hg2 => ?_) fun hb hg2 => ?_
    ·cases hg2
     refine ⟨_, rfl, ?_⟩
     refine ⟨_, rfl, ?_⟩
     obtain ⟨c3, hg3, hv3⟩ := bindS hv3
     replace hg3 := iteT hg3
     cases hg3
     refine ⟨_, rfl, ?_⟩
     refine ⟨Q0, ?_⟩
     cases hv3
     exact wt Q4 Q0 rfl
    refine ⟨_, rfl, _, rfl, _, ⟨_, List.length_map _, fun _ => rfl⟩, _, rfl, ?_⟩
    cases hg2
    refine ⟨_, rfl, ?_⟩
    refine ⟨_, rfl, ?_⟩
    obtain ⟨c3, hg4, hv3⟩ := bindS hv3
    refine Br.itf hg4 (fun hb hg4 => ?_) fun hb hg4 => ?_
    ·cases hg4
     refine ⟨_, rfl, ?_⟩
     refine ⟨Q0, ?_⟩
     cases hv3
     exact wt Q4 Q0 rfl
    obtain ⟨x2, hx2, hg4⟩ := bindS hg4
    obtain ⟨x3, hx3, hg4⟩ := bindS hg4
    refine ⟨_, rfl, _, rfl, _, ⟨_, idx_nat hx2, _, idx_row hx2, rfl⟩, _, ⟨_, rfl, rfl⟩, _, rfl, _, rfl, _, ⟨_, idx_nat hx3, _, idx_row hx3, rfl⟩, _, ⟨_, rfl, rfl⟩, _, rfl, ?_⟩
    cases hg4
    refine ⟨_, rfl, ?_⟩
    refine ⟨Q0, ?_⟩
    cases hv3
    exact wt Q4 Q0 rfl
   refine cn 41 (v3) rfl hB1 (fun hb hB1 => ?_) fun hb hB1 => ?_
   ·refine sg ?_
    refine wE [(4, vi s1)] Q1 ?_
    refine rt ?_
    have hB1 := out_ret hB1 hy1
    cases hB1
    exact Fz.v
   refine sk ?_
   refine rg ?_
   obtain ⟨hc1, hB1⟩ := chk_some hB1
   refine (Or.inl ⟨hc1, ?_⟩)
   exact ⟨_, sj hB1, wt Q3 Q0 rfl⟩
  refine xt ?_
  have hB1 := out_ret hB1 hy1
  exact ⟨_, hB1, wt Q0 Q0 rfl⟩
 intro v1 h
 unfold ref02_Check_J1 at h
 refine sg ?_
 refine wE [(4, vi (-1))] Q1 ?_
 refine rt ?_
 cases h
 exact Fz.v
theorem w_ref25_May {p_c} {r} (h : ref25_May p_c = some r) : Pure Tryz.prog 96 [(.a [(vi p_c.Id), (vi p_c.Ver), (.s (mU p_c.Data)), (.s (mA p_c.Sums))])] (vb r) := by
 refine po Tryz.tok 35 Tryz.func96 (by kernel_rfl) rfl rfl rfl ?_
 unfold ref25_May at h
 refine wE [(0, .a [vi p_c.Id, vi p_c.Ver, .s (mU p_c.Data), .s (mA p_c.Sums)])] Q1 ?_
 refine sg ?_
 refine wT [(1, .b 1 0)] [(1, .box [vi p_c.Id, vi p_c.Ver, .s (mU p_c.Data), .s (mA p_c.Sums)])] Q1 J1 rfl ?_
 obtain ⟨v1, hv1, h⟩ := bindS h
 refine Ok.seqw ⟨Cat.tab [(2, vb v1)], []⟩ ?_ ?_
 ·refine rg ?_
  refine ⟨_, rfl, ?_⟩
  obtain ⟨c1, hg1, hv1⟩ := bindS hv1
  refine Br.ite hg1 (fun hb hg1 => ?_) fun hb hg1 => ?_
  ·refine ⟨_, rfl, ?_⟩
   cases hg1
   obtain ⟨c2, hg2, hv1⟩ := bindS hv1
   refine Br.ite hg2 (fun hb hg2 => ?_) fun hb hg2 => ?_
   ·refine ⟨_, rfl, ?_⟩
    cases hg2
    obtain ⟨c3, hg3, hv1⟩ := bindS hv1
    refine Br.ite hg3 (fun hb hg3 => ?_) fun hb hg3 => ?_
    ·refine ⟨_, rfl, ?_⟩
     cases hg3
     obtain ⟨c4, hg4, hv1⟩ := bindS hv1
     refine Br.ite hg4 (fun hb hg4 => ?_) fun hb hg4 => ?_
     ·refine ⟨_, rfl, _, List.length_map _, fun _ => ?_⟩
      cases hg4
      obtain ⟨c5, hg5, hv1⟩ := bindS hv1
      refine Br.ite hg5 (fun hb hg5 => ?_) fun hb hg5 => ?_
      ·obtain ⟨x1, hx1, hg5⟩ := bindS hg5
       refine ⟨_, rfl, _, rfl, ?_⟩
       refine CallOk.call (w_ref02_Check hx1) (LeL.refl _) ?_
       cases hg5
       cases hv1
       exact wt Q1 Q0 rfl
      cases hg5
      cases hv1
      exact wt Q1 Q0 rfl
     cases hg4
     obtain ⟨c5, hg6, hv1⟩ := bindS hv1
     replace hg6 := iteF hg6
     cases hg6
     cases hv1
     exact wt Q1 Q0 rfl
    cases hg3
    obtain ⟨c4, hg7, hv1⟩ := bindS hv1
    replace hg7 := iteF hg7
    cases hg7
    obtain ⟨c5, hg8, hv1⟩ := bindS hv1
    replace hg8 := iteF hg8
    cases hg8
    cases hv1
    exact wt Q1 Q0 rfl
   cases hg2
   obtain ⟨c3, hg9, hv1⟩ := bindS hv1
   replace hg9 := iteF hg9
   cases hg9
   obtain ⟨c4, hg10, hv1⟩ := bindS hv1
   replace hg10 := iteF hg10
   cases hg10
   obtain ⟨c5, hg11, hv1⟩ := bindS hv1
   replace hg11 := iteF hg11
   cases hg11
   cases hv1
   exact wt Q1 Q0 rfl
  cases hg1
  obtain ⟨c2, hg12, hv1⟩ := bindS hv1
  replace hg12 := iteF hg12
  cases hg12
  obtain ⟨c3, hg13, hv1⟩ := bindS hv1
  replace hg13 := iteF hg13
  cases hg13
  obtain ⟨c4, hg14, hv1⟩ := bindS hv1
  replace hg14 := iteF hg14
  cases hg14
  obtain ⟨c5, hg15, hv1⟩ := bindS hv1
  replace hg15 := iteF hg15
  cases hg15
  cases hv1
  exact wt Q1 Q0 rfl
 refine rt ?_
 cases h
 exact Fz.v
theorem w_ref01_zig {p_n} {r} (h : ref01_zig p_n = some r) : Pure Tryz.prog 172 [(vi p_n)] (.v (.int .u64 r)) := by
 refine po Tryz.tok 14 Tryz.func172 (by kernel_rfl) rfl rfl rfl ?_
 unfold ref01_zig at h
 refine wE [(0, vi p_n)] Q1 ?_
 refine sg ?_
 refine wE [(0, vi p_n)] Q1 ?_
 refine sq ?_
 refine sg ?_
 refine wE [(0, vi p_n), (4, vb (decide (p_n < 0)))] Q2 ?_
 refine cn 4 (decide (p_n < 0)) rfl h (fun hb h => ?_) fun hb h => ?_
 ·refine sg ?_
  obtain ⟨hc1, h⟩ := chk_some h
  obtain ⟨hc2, h⟩ := chk_some h
  refine (Or.inl ⟨hc1, _, InI64.wrap hc2, _, rfl, _, rfl, _, rfl, ?_⟩)
  refine wE [(2, .v (.int .u64 (IntKind.u64.wrap ((IntKind.u64.wrap (2 * (IntKind.u64.wrap (0 - (p_n + 1))))) + 1))))] Q1 ?_
  refine rt ?_
  cases h
  exact Fz.v
 refine sk ?_
 refine sg ?_
 refine ⟨_, rfl, _, rfl, ?_⟩
 refine wE [(2, .v (.int .u64 (IntKind.u64.wrap (2 * (IntKind.u64.wrap p_n)))))] Q1 ?_
 refine rt ?_
 cases h
 exact Fz.v
theorem wo_ref01_Int {p_n} {r} (h : ref01_Int p_n = some r) : POwn Tryz.prog 138 [(vi p_n)] 5 1 (mU r) := by
 refine pw Tryz.tok 25 Tryz.func138 (by kernel_rfl) rfl rfl rfl ?_
 unfold ref01_Int at h
 refine wE [(0, vi p_n)] Q1 ?_
 refine sg ?_
 refine wE [(0, vi p_n)] Q1 ?_
 refine sg ?_
 refine Or.inr ?_
 refine wT [(0, vi p_n), (3, .o 5)] [(5, .own 5 1 (mU ([] : List UInt8)))] Q2 J1 rfl ?_
 refine sg ?_
 obtain ⟨x1, hx1, h⟩ := bindS h
 refine CallOk.call (w_ref01_zig hx1) (LeL.refl _) ?_
 refine wT [(3, .o 5), (4, .v (.int .u64 x1))] [(5, .own 5 1 (mU ([] : List UInt8)))] Q2 J1 rfl ?_
 obtain ⟨v1, hv1, h⟩ := bindS h
 refine Ok.seqw ⟨Cat.tab [(3, .o 5), (4, .v (.int .u64 v1.1))], [(5, .own 5 1 (mU v1.2))]⟩ ?_ ?_
 ·refine bl ?_
  refine Ok.loop (fun (s1 : Int × (List UInt8)) => ⟨Cat.tab [(3, .o 5), (4, .v (.int .u64 s1.1))], [(5, .own 5 1 (mU s1.2))]⟩) (ref01_Int_B1) (s0 := (x1, ([] : List UInt8))) hv1 (wt Q2 ⟨⟨_, rfl, .refl _⟩, Q0⟩ rfl) ?_
  intro s1 y1 hB1 hy1
  unfold ref01_Int_B1 at hB1
  refine sq ?_
  refine sg ?_
  refine wT [(3, .o 5), (4, .v (.int .u64 s1.1)), (9, vb (decide (s1.1 ≥ 128)))] [(5, .own 5 1 (mU s1.2))] Q3 J1 rfl ?_
  refine cn 9 (decide (s1.1 ≥ 128)) rfl hB1 (fun hb hB1 => ?_) fun hb hB1 => ?_
  ·refine sk ?_
   refine bl ?_
   refine sg ?_
   obtain ⟨hc1, hB1⟩ := chk_some hB1
   refine ⟨(by decide), _, rfl, _, rfl, _, toU8_wrap _, Or.inl ⟨rowsLen_map (f := cU8) (n := 1) (fun _ => rfl) ([toU8 (IntKind.u64.wrap (128 + (Int.tmod s1.1 (128))))]), app_b2 (f := cU8) (l := s1.2) (l' := [toU8 (IntKind.u64.wrap (128 + (Int.tmod s1.1 (128))))]) hc1, _, (List.map_append (f := cU8) (l₁ := s1.2) (l₂ := [toU8 (IntKind.u64.wrap (128 + (Int.tmod s1.1 (128))))])).symm, ?_⟩⟩
   refine wT [(3, .o 5), (4, .v (.int .u64 s1.1))] [(5, .own 5 1 (mU (s1.2 ++ [toU8 (IntKind.u64.wrap (128 + (Int.tmod s1.1 (128))))])))] Q2 J1 rfl ?_
   refine rg ?_
   refine ⟨(by decide), _, rfl, ?_⟩
   exact ⟨_, sj hB1, wt Q2 J1 rfl⟩
  refine xt ?_
  have hB1 := out_ret hB1 hy1
  cases hB1
  exact wt Q2 J1 rfl
 refine sg ?_
 obtain ⟨hc2, h⟩ := chk_some h
 refine ⟨_, toU8_wrap _, Or.inl ⟨rowsLen_map (f := cU8) (n := 1) (fun _ => rfl) ([toU8 v1.1]), app_b2 (f := cU8) (l := v1.2) (l' := [toU8 v1.1]) hc2, _, (List.map_append (f := cU8) (l₁ := v1.2) (l₂ := [toU8 v1.1])).symm, ?_⟩⟩
 refine wT [(3, .o 5)] [(5, .own 5 1 (mU (v1.2 ++ [toU8 v1.1])))] Q1 J1 rfl ?_
 refine sg ?_
 refine wT [(2, .o 5)] [(5, .own 5 1 (mU (v1.2 ++ [toU8 v1.1])))] Q1 J1 rfl ?_
 refine rt ?_
 cases h
 exact (.inr ⟨_, rfl, rfl⟩)
theorem w_ref01_Int {p_n} {r} (h : ref01_Int p_n = some r) : Pure Tryz.prog 138 [(vi p_n)] (.s (mU r)) := (wo_ref01_Int h).pure
theorem wo_ref01_Str {p_s} {r} (h : ref01_Str p_s = some r) : POwn Tryz.prog 139 [(vs p_s)] 5 1 (mU r) := by
 refine pw Tryz.tok 21 Tryz.func139 (by kernel_rfl) rfl rfl rfl ?_
 unfold ref01_Str at h
 refine wE [(0, vs p_s)] Q1 ?_
 refine sg ?_
 refine wE [(0, vs p_s)] Q1 ?_
 refine sg ?_
 obtain ⟨x1, hx1, h⟩ := bindS h
 refine ⟨_, str_size _, ?_⟩
 refine CallOk.own (D := 7) (wo_ref01_Int hx1) (LeL.refl _) rfl ?_
 refine wT [(0, vs p_s), (3, .o 7)] [(7, .own 5 1 (mU x1))] Q2 J1 rfl ?_
 obtain ⟨v1, hv1, h⟩ := bindS h
 refine Ok.seqw ⟨Cat.tab [(3, .o 7)], [(7, .own 5 1 (mU v1))]⟩ ?_ ?_
 ·refine sg ?_
  refine wT [(0, vs p_s), (3, .o 7), (4, vi (0))] [(7, .own 5 1 (mU x1))] Q3 J1 rfl ?_
  refine bl ?_
  refine Ok.loop (fun (s1 : Int × (List UInt8)) => ⟨Cat.tab [(0, vs p_s), (3, .o 7), (4, vi s1.1)], [(7, .own 5 1 (mU s1.2))]⟩) (ref01_Str_B1 p_s) (s0 := (0, x1)) hv1 (wt Q3 ⟨⟨_, rfl, .refl _⟩, Q0⟩ rfl) ?_
  intro s1 y1 hB1 hy1
  unfold ref01_Str_B1 at hB1
  refine sq ?_
  refine sg ?_
  refine ⟨_, str_size _, ?_⟩
  refine wT [(0, vs p_s), (3, .o 7), (4, vi s1.1), (11, vb (decide (s1.1 < (p_s.length : Int))))] [(7, .own 5 1 (mU s1.2))] Q4 J1 rfl ?_
  refine cn 11 (decide (s1.1 < (p_s.length : Int))) rfl hB1 (fun hb hB1 => ?_) fun hb hB1 => ?_
  ·refine sk ?_
   refine sq ?_
   refine bl ?_
   refine rg ?_
   obtain ⟨x2, hx2, hB1⟩ := bindS hB1
   obtain ⟨hc1, hB1⟩ := chk_some hB1
   refine ⟨_, idx_nat hx2, _, idx_get hx2, Or.inl ⟨rowsLen_map (f := cU8) (n := 1) (fun _ => rfl) ([x2]), app_b2 (f := cU8) (l := s1.2) (l' := [x2]) hc1, _, (List.map_append (f := cU8) (l₁ := s1.2) (l₂ := [x2])).symm, ?_⟩⟩
   refine wT [(0, vs p_s), (3, .o 7), (4, vi s1.1)] [(7, .own 5 1 (mU (s1.2 ++ [x2])))] Q3 J1 rfl ?_
   refine rg ?_
   obtain ⟨hc2, hB1⟩ := chk_some hB1
   refine (Or.inl ⟨hc2, ?_⟩)
   exact ⟨_, sj hB1, wt Q3 J1 rfl⟩
  refine xt ?_
  have hB1 := out_ret hB1 hy1
  cases hB1
  exact wt Q1 J1 rfl
 refine sg ?_
 refine wT [(2, .o 7)] [(7, .own 5 1 (mU v1))] Q1 J1 rfl ?_
 refine rt ?_
 cases h
 exact (.inr ⟨_, rfl, rfl⟩)
theorem w_ref01_Str {p_s} {r} (h : ref01_Str p_s = some r) : Pure Tryz.prog 139 [(vs p_s)] (.s (mU r)) := (wo_ref01_Str h).pure
theorem wo_ref01_Ints {p_l} {r} (h : ref01_Ints p_l = some r) : POwn Tryz.prog 140 [(.s (mA p_l))] 5 1 (mU r) := by
 refine pw Tryz.tok 22 Tryz.func140 (by kernel_rfl) rfl rfl rfl ?_
 unfold ref01_Ints at h
 refine wE [(0, .s (mA p_l))] Q1 ?_
 refine sg ?_
 refine wE [(0, .s (mA p_l))] Q1 ?_
 refine sg ?_
 obtain ⟨x1, hx1, h⟩ := bindS h
 refine ⟨_, List.length_map _, fun _ => ?_⟩
 refine CallOk.own (D := 7) (wo_ref01_Int hx1) (LeL.refl _) rfl ?_
 refine wT [(0, .s (mA p_l)), (3, .o 7)] [(7, .own 5 1 (mU x1))] Q2 J1 rfl ?_
 obtain ⟨v1, hv1, h⟩ := bindS h
 refine Ok.seqw ⟨Cat.tab [(3, .o 7)], [(7, .own 5 1 (mU v1))]⟩ ?_ ?_
 ·refine sg ?_
  refine wT [(0, .s (mA p_l)), (3, .o 7), (4, vi (0))] [(7, .own 5 1 (mU x1))] Q3 J1 rfl ?_
  refine bl ?_
  refine Ok.loop (fun (s1 : Int × (List UInt8)) => ⟨Cat.tab [(0, .s (mA p_l)), (3, .o 7), (4, vi s1.1)], [(7, .own 5 1 (mU s1.2))]⟩) (ref01_Ints_B1 p_l) (s0 := (0, x1)) hv1 (wt Q3 ⟨⟨_, rfl, .refl _⟩, Q0⟩ rfl) ?_
  intro s1 y1 hB1 hy1
  unfold ref01_Ints_B1 at hB1
  refine sq ?_
  refine sg ?_
  refine ⟨_, List.length_map _, fun _ => ?_⟩
  refine wT [(0, .s (mA p_l)), (3, .o 7), (4, vi s1.1), (11, vb (decide (s1.1 < (p_l.length : Int))))] [(7, .own 5 1 (mU s1.2))] Q4 J1 rfl ?_
  refine cn 11 (decide (s1.1 < (p_l.length : Int))) rfl hB1 (fun hb hB1 => ?_) fun hb hB1 => ?_
  ·refine sk ?_
   refine sq ?_
   refine bl ?_
   refine rg ?_
   obtain ⟨x2, hx2, hB1⟩ := bindS hB1
   obtain ⟨x3, hx3, hB1⟩ := bindS hB1
   refine ⟨_, idx_nat hx2, _, idx_row hx2, _, rfl, ?_⟩
   refine CallOk.call (w_ref01_Int hx3) (LeL.refl _) ?_
   obtain ⟨hc1, hB1⟩ := chk_some hB1
   refine ⟨rowsLen_map (f := cU8) (n := 1) (fun _ => rfl) x3, app_b2 (f := cU8) (l := s1.2) (l' := x3) hc1, _, (List.map_append (f := cU8) (l₁ := s1.2) (l₂ := x3)).symm, ?_⟩
   refine wT [(0, .s (mA p_l)), (3, .o 7), (4, vi s1.1)] [(7, .own 5 1 (mU (s1.2 ++ x3)))] Q3 J1 rfl ?_
   refine rg ?_
   obtain ⟨hc2, hB1⟩ := chk_some hB1
   refine (Or.inl ⟨hc2, ?_⟩)
   exact ⟨_, sj hB1, wt Q3 J1 rfl⟩
  refine xt ?_
  have hB1 := out_ret hB1 hy1
  cases hB1
  exact wt Q1 J1 rfl
 refine sg ?_
 refine wT [(2, .o 7)] [(7, .own 5 1 (mU v1))] Q1 J1 rfl ?_
 refine rt ?_
 cases h
 exact (.inr ⟨_, rfl, rfl⟩)
theorem w_ref01_Ints {p_l} {r} (h : ref01_Ints p_l = some r) : Pure Tryz.prog 140 [(.s (mA p_l))] (.s (mU r)) := (wo_ref01_Ints h).pure
theorem wo_ref25_Page {p_c} {r} (h : ref25_Page p_c = some r) : POwn Tryz.prog 97 [(.a [(vi p_c.Id), (vi p_c.Ver), (.s (mU p_c.Data)), (.s (mA p_c.Sums))])] 5 1 (mU r) := by
 refine pw Tryz.tok 45 Tryz.func97 (by kernel_rfl) rfl rfl rfl ?_
 unfold ref25_Page at h
 refine wE [(0, .a [vi p_c.Id, vi p_c.Ver, .s (mU p_c.Data), .s (mA p_c.Sums)])] Q1 ?_
 refine sg ?_
 refine wT [(1, .b 1 0)] [(1, .box [vi p_c.Id, vi p_c.Ver, .s (mU p_c.Data), .s (mA p_c.Sums)])] Q1 J1 rfl ?_
 refine sg ?_
 obtain ⟨x1, hx1, h⟩ := bindS h
 refine Or.inr ⟨_, rfl, ?_⟩
 refine CallOk.call (w_ref01_Int hx1) (LeL.refl _) ?_
 obtain ⟨hc1, h⟩ := chk_some h
 refine ⟨rowsLen_map (f := cU8) (n := 1) (fun _ => rfl) x1, app_b2 (f := cU8) (l := ([] : List UInt8)) (l' := x1) hc1, _, (List.map_append (f := cU8) (l₁ := ([] : List UInt8)) (l₂ := x1)).symm, ?_⟩
 refine wT [(1, .b 1 0), (3, .o 5)] [(1, .box [vi p_c.Id, vi p_c.Ver, .s (mU p_c.Data), .s (mA p_c.Sums)]), (5, .own 5 1 (mU (([] : List UInt8) ++ x1)))] Q2 J2 rfl ?_
 refine sg ?_
 obtain ⟨x2, hx2, h⟩ := bindS h
 refine ⟨_, rfl, ?_⟩
 refine CallOk.call (w_ref01_Int hx2) (LeL.refl _) ?_
 obtain ⟨hc2, h⟩ := chk_some h
 refine ⟨rowsLen_map (f := cU8) (n := 1) (fun _ => rfl) x2, app_b2 (f := cU8) (l := ([] : List UInt8) ++ x1) (l' := x2) hc2, _, (List.map_append (f := cU8) (l₁ := ([] : List UInt8) ++ x1) (l₂ := x2)).symm, ?_⟩
 refine wT [(1, .b 1 0), (3, .o 5)] [(1, .box [vi p_c.Id, vi p_c.Ver, .s (mU p_c.Data), .s (mA p_c.Sums)]), (5, .own 5 1 (mU ((([] : List UInt8) ++ x1) ++ x2)))] Q2 J2 rfl ?_
 refine sg ?_
 obtain ⟨x3, hx3, h⟩ := bindS h
 refine ⟨_, rfl, _, rfl, ?_⟩
 refine CallOk.call (w_ref01_Str hx3) (LeL.refl _) ?_
 obtain ⟨hc3, h⟩ := chk_some h
 refine ⟨rowsLen_map (f := cU8) (n := 1) (fun _ => rfl) x3, app_b2 (f := cU8) (l := (([] : List UInt8) ++ x1) ++ x2) (l' := x3) hc3, _, (List.map_append (f := cU8) (l₁ := (([] : List UInt8) ++ x1) ++ x2) (l₂ := x3)).symm, ?_⟩
 refine wT [(1, .b 1 0), (3, .o 5)] [(1, .box [vi p_c.Id, vi p_c.Ver, .s (mU p_c.Data), .s (mA p_c.Sums)]), (5, .own 5 1 (mU (((([] : List UInt8) ++ x1) ++ x2) ++ x3)))] Q2 J2 rfl ?_
 refine sg ?_
 obtain ⟨x4, hx4, h⟩ := bindS h
 refine ⟨_, rfl, ?_⟩
 refine CallOk.call (w_ref01_Ints hx4) (LeL.refl _) ?_
 obtain ⟨hc4, h⟩ := chk_some h
 refine ⟨rowsLen_map (f := cU8) (n := 1) (fun _ => rfl) x4, app_b2 (f := cU8) (l := ((([] : List UInt8) ++ x1) ++ x2) ++ x3) (l' := x4) hc4, _, (List.map_append (f := cU8) (l₁ := ((([] : List UInt8) ++ x1) ++ x2) ++ x3) (l₂ := x4)).symm, ?_⟩
 refine wT [(3, .o 5)] [(5, .own 5 1 (mU ((((([] : List UInt8) ++ x1) ++ x2) ++ x3) ++ x4)))] Q1 J1 rfl ?_
 refine sg ?_
 obtain ⟨x5, hx5, h⟩ := bindS h
 refine CallOk.borrow (w_ref02_Of hx5) (.cons (Fz.o rfl) (.nil)) rfl ?_
 refine wT [(3, .o 5), (4, vi x5)] [(5, .own 5 1 (mU ((((([] : List UInt8) ++ x1) ++ x2) ++ x3) ++ x4)))] Q2 J1 rfl ?_
 refine sg ?_
 obtain ⟨hc5, h⟩ := chk_some h
 refine ⟨(by decide), _, rfl, _, toU8_wrap _, (by decide), _, rfl, (by decide), _, rfl, _, toU8_wrap _, (by decide), _, rfl, (by decide), _, rfl, _, toU8_wrap _, (by decide), _, rfl, _, toU8_wrap _, Or.inl ⟨rowsLen_map (f := cU8) (n := 1) (fun _ => rfl) ([toU8 (Int.tmod x5 (256)), toU8 (Int.tmod (quoK .i64 x5 (256)) (256)), toU8 (Int.tmod (quoK .i64 x5 (65536)) (256)), toU8 (quoK .i64 x5 (16777216))]), app_b2 (f := cU8) (l := (((([] : List UInt8) ++ x1) ++ x2) ++ x3) ++ x4) (l' := [toU8 (Int.tmod x5 (256)), toU8 (Int.tmod (quoK .i64 x5 (256)) (256)), toU8 (Int.tmod (quoK .i64 x5 (65536)) (256)), toU8 (quoK .i64 x5 (16777216))]) hc5, _, (List.map_append (f := cU8) (l₁ := (((([] : List UInt8) ++ x1) ++ x2) ++ x3) ++ x4) (l₂ := [toU8 (Int.tmod x5 (256)), toU8 (Int.tmod (quoK .i64 x5 (256)) (256)), toU8 (Int.tmod (quoK .i64 x5 (65536)) (256)), toU8 (quoK .i64 x5 (16777216))])).symm, ?_⟩⟩
 refine wT [(2, .o 5)] [(5, .own 5 1 (mU (((((([] : List UInt8) ++ x1) ++ x2) ++ x3) ++ x4) ++ [toU8 (Int.tmod x5 (256)), toU8 (Int.tmod (quoK .i64 x5 (256)) (256)), toU8 (Int.tmod (quoK .i64 x5 (65536)) (256)), toU8 (quoK .i64 x5 (16777216))])))] Q1 J1 rfl ?_
 refine rt ?_
 cases h
 exact (.inr ⟨_, rfl, rfl⟩)
theorem w_ref25_Page {p_c} {r} (h : ref25_Page p_c = some r) : Pure Tryz.prog 97 [(.a [(vi p_c.Id), (vi p_c.Ver), (.s (mU p_c.Data)), (.s (mA p_c.Sums))])] (.s (mU r)) := (wo_ref25_Page h).pure
theorem w_ref02_Bytes {p_a} {p_b} {r} (h : ref02_Bytes p_a p_b = some r) : Pure Tryz.prog 73 [(.s (mU p_a)), (.s (mU p_b))] (vb r) := by
 refine po Tryz.tok 26 Tryz.func73 (by kernel_rfl) rfl rfl rfl ?_
 unfold ref02_Bytes at h
 refine wE [(0, .s (mU p_a)), (1, .s (mU p_b))] Q2 ?_
 refine sg ?_
 refine wE [(0, .s (mU p_a)), (1, .s (mU p_b))] Q2 ?_
 refine sq ?_
 refine sg ?_
 refine ⟨_, List.length_map _, fun _ => ⟨_, List.length_map _, fun _ => ?_⟩⟩
 refine wE [(0, .s (mU p_a)), (1, .s (mU p_b)), (10, vb ((p_a.length : Int) != (p_b.length : Int)))] Q3 ?_
 refine cn 10 ((p_a.length : Int) != (p_b.length : Int)) rfl h (fun hb h => ?_) fun hb h => ?_
 ·refine sg ?_
  refine wE [(4, vb false)] Q1 ?_
  refine rt ?_
  cases h
  exact Fz.v
 refine sk ?_
 refine Ok.seqj (fun v1 => ⟨Cat.tab [], []⟩) (fun v1 => ref02_Bytes_J1 v1 = some r) ?_ ?_
 ·refine sg ?_
  refine wE [(0, .s (mU p_a)), (1, .s (mU p_b)), (5, vi (0))] Q3 ?_
  refine bl ?_
  refine Ok.loop (fun (s1 : Int) => ⟨Cat.tab [(0, .s (mU p_a)), (1, .s (mU p_b)), (5, vi s1)], []⟩) (ref02_Bytes_B1 p_a p_b) (s0 := 0) h (wt Q3 Q0 rfl) ?_
  intro s1 y1 hB1 hy1
  unfold ref02_Bytes_B1 at hB1
  refine sq ?_
  refine sg ?_
  refine ⟨_, List.length_map _, fun _ => ?_⟩
  refine wE [(0, .s (mU p_a)), (1, .s (mU p_b)), (5, vi s1), (14, vb (decide (s1 < (p_a.length : Int))))] Q4 ?_
  refine cn 14 (decide (s1 < (p_a.length : Int))) rfl hB1 (fun hb hB1 => ?_) fun hb hB1 => ?_
  ·refine sk ?_
   refine sq ?_
   refine bl ?_
   refine sq ?_
   refine Ok.draw (m := 9) (MD := ⟨[]⟩) (CH := ⟨[]⟩) Tryz.tok Tryz.mixed (by kernel_rfl) ?_
   obtain ⟨x1, hx1, hB1⟩ := bindS hB1
   obtain ⟨x2, hx2, hB1⟩ := bindS hB1
   refine ⟨_, rfl, _, rfl, _, ⟨_, idx_nat hx1, _, idx_row hx1, rfl⟩, _, ⟨_, rfl, rfl⟩, _, rfl, _, rfl, _, ⟨_, idx_nat hx2, _, idx_row hx2, rfl⟩, _, ⟨_, rfl, rfl⟩, _, rfl, Q0, ?_⟩
   refine wE [(0, .s (mU p_a)), (1, .s (mU p_b)), (5, vi s1), (25, vb ((x1.toNat : Int) != (x2.toNat : Int)))] Q4 ?_
   refine cn 25 ((x1.toNat : Int) != (x2.toNat : Int)) rfl hB1 (fun hb hB1 => ?_) fun hb hB1 => ?_
   ·refine sg ?_
    refine wE [(4, vb false)] Q1 ?_
    refine rt ?_
    have hB1 := out_ret hB1 hy1
    cases hB1
    exact Fz.v
   refine sk ?_
   refine rg ?_
   obtain ⟨hc1, hB1⟩ := chk_some hB1
   refine (Or.inl ⟨hc1, ?_⟩)
   exact ⟨_, sj hB1, wt Q3 Q0 rfl⟩
  refine xt ?_
  have hB1 := out_ret hB1 hy1
  exact ⟨_, hB1, wt Q0 Q0 rfl⟩
 intro v1 h
 unfold ref02_Bytes_J1 at h
 refine sg ?_
 refine wE [(4, vb true)] Q1 ?_
 refine rt ?_
 cases h
 exact Fz.v
theorem w_ref25_Get {p_d} {p_id} {r} (h : ref25_Get p_d p_id = some r) : Pure Tryz.prog 60 [(.a [(.s (mI p_d.Synced)), (.s (mI p_d.Loose)), (vb p_d.Down)]), (vi p_id)] (.t [(.a [(vi r.1.Id), (vi r.1.Ver), (.s (mU r.1.Data)), (.s (mA r.1.Sums))]), (vi r.2)]) := by
 refine po Tryz.tok 66 Tryz.func60 (by kernel_rfl) rfl rfl rfl ?_
 unfold ref25_Get at h
 refine wE [(0, .a [.s (mI p_d.Synced), .s (mI p_d.Loose), vb p_d.Down]), (1, vi p_id)] Q2 ?_
 refine sg ?_
 refine wT [(1, vi p_id), (2, .b 2 0), (4, .b 4 0)] [(2, .box [.s (mI p_d.Synced), .s (mI p_d.Loose), vb p_d.Down]), (4, .box [vi (0), vi (0), .v (.slice none 0 0), .v (.slice none 0 0)])] Q3 J2 rfl ?_
 refine sq ?_
 obtain ⟨v1, hv1, h⟩ := bindS h
 refine Ok.seqw ⟨Cat.tab [(1, vi p_id), (2, .b 2 0), (4, .b 4 0), (15, vb v1)], [(2, .box [.s (mI p_d.Synced), .s (mI p_d.Loose), vb p_d.Down]), (4, .box [vi (0), vi (0), .v (.slice none 0 0), .v (.slice none 0 0)])]⟩ ?_ ?_
 ·refine rg ?_
  obtain ⟨c1, hg1, hv1⟩ := bindS hv1
  refine Br.itf hg1 (fun hb hg1 => ?_) fun hb hg1 => ?_
  ·cases hg1
   cases hv1
   exact wt Q4 J2 rfl
  cases hg1
  cases hv1
  exact wt Q4 J2 rfl
 refine cn 15 (v1) rfl h (fun hb h => ?_) fun hb h => ?_
 ·refine sg ?_
  refine ⟨_, rfl, ?_⟩
  refine wT [(4, .b 4 0), (5, vi (1))] [(4, .box [vi (0), vi (0), .v (.slice none 0 0), .v (.slice none 0 0)])] Q2 J1 rfl ?_
  refine rt ?_
  cases h
  exact ⟨_, rfl, (Fz.t (.cons (Fz.a (.cons Fz.v (.cons Fz.v (.cons Fz.nil (.cons Fz.nil .nil))))) (.cons Fz.v .nil)))⟩
 refine sk ?_
 refine sg ?_
 obtain ⟨x1, hx1, h⟩ := bindS h
 refine ⟨_, rfl, ?_⟩
 refine CallOk.call (w_ref04_Read hx1) (LeL.refl _) ?_
 refine wT [(1, vi p_id), (4, .b 4 0), (6, .s (mU x1.1)), (7, vi x1.2)] [(4, .box [vi (0), vi (0), .v (.slice none 0 0), .v (.slice none 0 0)])] Q4 J1 rfl ?_
 refine sq ?_
 refine sg ?_
 refine wT [(1, vi p_id), (4, .b 4 0), (6, .s (mU x1.1)), (7, vi x1.2), (24, vb (x1.2 != 0))] [(4, .box [vi (0), vi (0), .v (.slice none 0 0), .v (.slice none 0 0)])] Q5 J1 rfl ?_
 refine cn 24 (x1.2 != 0) rfl h (fun hb h => ?_) fun hb h => ?_
 ·refine sg ?_
  refine ⟨_, rfl, ?_⟩
  refine wT [(4, .b 4 0), (5, vi x1.2)] [(4, .box [vi (0), vi (0), .v (.slice none 0 0), .v (.slice none 0 0)])] Q2 J1 rfl ?_
  refine rt ?_
  cases h
  exact ⟨_, rfl, (Fz.t (.cons (Fz.a (.cons Fz.v (.cons Fz.v (.cons Fz.nil (.cons Fz.nil .nil))))) (.cons Fz.v .nil)))⟩
 refine sk ?_
 refine sq ?_
 refine sg ?_
 refine ⟨_, List.length_map _, fun _ => ?_⟩
 refine wT [(1, vi p_id), (4, .b 4 0), (6, .s (mU x1.1)), (29, vb ((x1.1.length : Int) == 0))] [(4, .box [vi (0), vi (0), .v (.slice none 0 0), .v (.slice none 0 0)])] Q4 J1 rfl ?_
 refine cn 29 ((x1.1.length : Int) == 0) rfl h (fun hb h => ?_) fun hb h => ?_
 ·refine sg ?_
  refine ⟨_, rfl, ?_⟩
  refine wT [(4, .b 4 0), (5, vi (41))] [(4, .box [vi (0), vi (0), .v (.slice none 0 0), .v (.slice none 0 0)])] Q2 J1 rfl ?_
  refine rt ?_
  cases h
  exact ⟨_, rfl, (Fz.t (.cons (Fz.a (.cons Fz.v (.cons Fz.v (.cons Fz.nil (.cons Fz.nil .nil))))) (.cons Fz.v .nil)))⟩
 refine sk ?_
 refine sq ?_
 refine sg ?_
 refine ⟨_, List.length_map _, fun _ => ?_⟩
 refine wT [(1, vi p_id), (4, .b 4 0), (6, .s (mU x1.1)), (33, vb (decide ((x1.1.length : Int) < 4)))] [(4, .box [vi (0), vi (0), .v (.slice none 0 0), .v (.slice none 0 0)])] Q4 J1 rfl ?_
 refine cn 33 (decide ((x1.1.length : Int) < 4)) rfl h (fun hb h => ?_) fun hb h => ?_
 ·refine sg ?_
  refine ⟨_, rfl, ?_⟩
  refine wT [(4, .b 4 0), (5, vi (251))] [(4, .box [vi (0), vi (0), .v (.slice none 0 0), .v (.slice none 0 0)])] Q2 J1 rfl ?_
  refine rt ?_
  cases h
  exact ⟨_, rfl, (Fz.t (.cons (Fz.a (.cons Fz.v (.cons Fz.v (.cons Fz.nil (.cons Fz.nil .nil))))) (.cons Fz.v .nil)))⟩
 refine sk ?_
 refine sg ?_
 obtain ⟨hc1, h⟩ := chk_some h
 obtain ⟨hc2, h⟩ := chk_some h
 obtain ⟨x2, hx2, h⟩ := bindS h
 refine ⟨_, List.length_map _, fun _ => (Or.inl ⟨hc1, _, sl_nat hc2.1, Nat.zero_le _, sl_len hc2, rowsK (f := cU8) (K := 1) (fun _ => rfl) x1.1, _, sl_take _ _ _, ?_⟩)⟩
 refine CallOk.call (w_ref25_parsed hx2) (LeL.refl _) ?_
 refine ⟨_, rfl, ?_⟩
 refine wT [(1, vi p_id), (4, .b 4 0), (6, .s (mU x1.1)), (8, .b 8 0), (9, vb x2.2)] [(4, .box [vi (0), vi (0), .v (.slice none 0 0), .v (.slice none 0 0)]), (8, .box [vi x2.1.Id, vi x2.1.Ver, .s (mU x2.1.Data), .s (mA x2.1.Sums)])] Q5 J2 rfl ?_
 refine sq ?_
 obtain ⟨v2, hv2, h⟩ := bindS h
 refine Ok.seqw ⟨Cat.tab [(4, .b 4 0), (8, .b 8 0), (63, vb v2)], [(4, .box [vi (0), vi (0), .v (.slice none 0 0), .v (.slice none 0 0)]), (8, .box [vi x2.1.Id, vi x2.1.Ver, .s (mU x2.1.Data), .s (mA x2.1.Sums)])]⟩ ?_ ?_
 ·refine rg ?_
  obtain ⟨c2, hg2, hv2⟩ := bindS hv2
  refine Br.itf hg2 (fun hb hg2 => ?_) fun hb hg2 => ?_
  ·cases hg2
   obtain ⟨c3, hg3, hv2⟩ := bindS hv2
   replace hg3 := iteT hg3
   cases hg3
   obtain ⟨c4, hg4, hv2⟩ := bindS hv2
   replace hg4 := iteT hg4
   cases hg4
   cases hv2
   exact wt Q3 J2 rfl
  obtain ⟨x3, hx3, hg2⟩ := bindS hg2
  refine ⟨_, rfl, ?_⟩
  refine CallOk.call (w_ref25_May hx3) (LeL.refl _) ?_
  cases hg2
  obtain ⟨c3, hg5, hv2⟩ := bindS hv2
  refine Br.itf hg5 (fun hb hg5 => ?_) fun hb hg5 => ?_
  ·cases hg5
   obtain ⟨c4, hg6, hv2⟩ := bindS hv2
   replace hg6 := iteT hg6
   cases hg6
   cases hv2
   exact wt Q3 J2 rfl
  refine ⟨_, rfl, ?_⟩
  cases hg5
  obtain ⟨c4, hg7, hv2⟩ := bindS hv2
  refine Br.itf hg7 (fun hb hg7 => ?_) fun hb hg7 => ?_
  ·cases hg7
   cases hv2
   exact wt Q3 J2 rfl
  obtain ⟨x4, hx4, hg7⟩ := bindS hg7
  refine ⟨_, rfl, ?_⟩
  refine CallOk.call (w_ref25_Page hx4) (LeL.refl _) ?_
  obtain ⟨x5, hx5, hg7⟩ := bindS hg7
  refine CallOk.call (w_ref02_Bytes hx5) (LeL.refl _) ?_
  cases hg7
  cases hv2
  exact wt Q3 J2 rfl
 refine cn 63 (v2) rfl h (fun hb h => ?_) fun hb h => ?_
 ·refine sg ?_
  refine ⟨_, rfl, ?_⟩
  refine wT [(4, .b 4 0), (5, vi (251))] [(4, .box [vi (0), vi (0), .v (.slice none 0 0), .v (.slice none 0 0)])] Q2 J1 rfl ?_
  refine rt ?_
  cases h
  exact ⟨_, rfl, (Fz.t (.cons (Fz.a (.cons Fz.v (.cons Fz.v (.cons Fz.nil (.cons Fz.nil .nil))))) (.cons Fz.v .nil)))⟩
 refine sk ?_
 refine sg ?_
 refine ⟨_, rfl, _, rfl, ?_⟩
 refine wT [(4, .b 4 0), (5, vi (0))] [(4, .box [vi x2.1.Id, vi x2.1.Ver, .s (mU x2.1.Data), .s (mA x2.1.Sums)])] Q2 J1 rfl ?_
 refine rt ?_
 cases h
 exact ⟨_, rfl, (Fz.t (.cons (Fz.imm rfl) (.cons Fz.v .nil)))⟩
theorem w_ref04_Write {p_d} {p_at} {p_data} {r} (h : ref04_Write p_d p_at p_data = some r) : Pure Tryz.prog 98 [(.a [(.s (mI p_d.Synced)), (.s (mI p_d.Loose)), (vb p_d.Down)]), (vi p_at), (.s (mU p_data))] (.t [(.a [(.s (mI r.1.Synced)), (.s (mI r.1.Loose)), (vb r.1.Down)]), (vi r.2)]) := by
 refine po Tryz.tok 38 Tryz.func98 (by kernel_rfl) rfl rfl rfl ?_
 unfold ref04_Write at h
 refine wE [(0, .a [.s (mI p_d.Synced), .s (mI p_d.Loose), vb p_d.Down]), (1, vi p_at), (2, .s (mU p_data))] Q3 ?_
 refine sg ?_
 refine wT [(1, vi p_at), (2, .s (mU p_data)), (3, .b 3 0), (6, .b 6 0)] [(3, .box [.s (mI p_d.Synced), .s (mI p_d.Loose), vb p_d.Down]), (6, .box [.v (.slice none 0 0), .v (.slice none 0 0), vb false])] Q4 J2 rfl ?_
 refine sq ?_
 refine sg ?_
 refine ⟨_, rfl, ?_⟩
 refine wT [(1, vi p_at), (2, .s (mU p_data)), (3, .b 3 0), (6, .b 6 0), (12, vb p_d.Down)] [(3, .box [.s (mI p_d.Synced), .s (mI p_d.Loose), vb p_d.Down]), (6, .box [.v (.slice none 0 0), .v (.slice none 0 0), vb false])] Q5 J2 rfl ?_
 refine cn 12 (p_d.Down) rfl h (fun hb h => ?_) fun hb h => ?_
 ·refine sg ?_
  refine ⟨_, rfl, _, rfl, ?_⟩
  refine wT [(6, .b 6 0), (7, vi (40))] [(6, .box [.s (mI p_d.Synced), .s (mI p_d.Loose), vb p_d.Down])] Q2 J1 rfl ?_
  refine rt ?_
  cases h
  exact ⟨_, rfl, (Fz.t (.cons (Fz.imm rfl) (.cons Fz.v .nil)))⟩
 refine sk ?_
 refine sg ?_
 refine ⟨_, rfl, ?_⟩
 refine wT [(3, .b 3 0), (6, .b 6 0), (8, .b 8 0)] [(3, .box [.s (mI p_d.Synced), .s (mI p_d.Loose), vb p_d.Down]), (6, .box [.v (.slice none 0 0), .v (.slice none 0 0), vb false]), (8, .box [vi p_at, .s (mU p_data)])] Q3 J3 rfl ?_
 refine sg ?_
 obtain ⟨x1, hx1, h⟩ := bindS h
 refine ⟨_, rfl, ?_⟩
 refine CallOk.call (w_ref04_Page hx1) (LeL.refl _) ?_
 refine wT [(3, .b 3 0), (6, .b 6 0), (8, .b 8 0), (9, vb x1)] [(3, .box [.s (mI p_d.Synced), .s (mI p_d.Loose), vb p_d.Down]), (6, .box [.v (.slice none 0 0), .v (.slice none 0 0), vb false]), (8, .box [vi p_at, .s (mU p_data)])] Q4 J3 rfl ?_
 refine sq ?_
 refine sg ?_
 refine wT [(3, .b 3 0), (6, .b 6 0), (8, .b 8 0), (20, vb (!x1))] [(3, .box [.s (mI p_d.Synced), .s (mI p_d.Loose), vb p_d.Down]), (6, .box [.v (.slice none 0 0), .v (.slice none 0 0), vb false]), (8, .box [vi p_at, .s (mU p_data)])] Q4 J3 rfl ?_
 refine cn 20 (!x1) rfl h (fun hb h => ?_) fun hb h => ?_
 ·refine sg ?_
  refine ⟨_, rfl, _, rfl, ?_⟩
  refine wT [(6, .b 6 0), (7, vi (1))] [(6, .box [.s (mI p_d.Synced), .s (mI p_d.Loose), vb p_d.Down])] Q2 J1 rfl ?_
  refine rt ?_
  cases h
  exact ⟨_, rfl, (Fz.t (.cons (Fz.imm rfl) (.cons Fz.v .nil)))⟩
 refine sk ?_
 refine sg ?_
 refine ⟨_, rfl, _, rfl, ?_⟩
 refine wT [(3, .b 3 0), (6, .b 6 0), (8, .b 8 0), (10, .b 10 0)] [(3, .box [.s (mI p_d.Synced), .s (mI p_d.Loose), vb p_d.Down]), (6, .box [.v (.slice none 0 0), .v (.slice none 0 0), vb false]), (8, .box [vi p_at, .s (mU p_data)]), (10, .box [.s (mI p_d.Synced), .v (.slice none 0 0), vb false])] Q4 J4 rfl ?_
 refine sg ?_
 obtain ⟨hc1, h⟩ := chk_some h
 refine ⟨_, rfl, _, rfl, rowsLen_map (f := c_api_Page) (n := 2) (fun _ => rfl) p_d.Loose, app_b1 (f := c_api_Page) (l' := p_d.Loose) hc1, _, rfl, _, rfl, ?_⟩
 refine wT [(6, .b 6 0), (8, .b 8 0), (10, .b 10 0)] [(6, .box [.v (.slice none 0 0), .v (.slice none 0 0), vb false]), (8, .box [vi p_at, .s (mU p_data)]), (10, .box [.s (mI p_d.Synced), .o 29, vb false]), (29, .own 107 2 (mI p_d.Loose))] Q3 J4 rfl ?_
 refine sg ?_
 obtain ⟨hc2, h⟩ := chk_some h
 refine ⟨_, rfl, _, rfl, Or.inl ⟨rowsLen_map (f := c_api_Page) (n := 2) (fun _ => rfl) ([(⟨p_at, p_data⟩ : api_Page)]), app_b2 (f := c_api_Page) (l := p_d.Loose) (l' := [(⟨p_at, p_data⟩ : api_Page)]) hc2, _, (List.map_append (f := c_api_Page) (l₁ := p_d.Loose) (l₂ := [(⟨p_at, p_data⟩ : api_Page)])).symm, _, rfl, ?_⟩⟩
 refine wT [(6, .b 6 0), (10, .b 10 0)] [(6, .box [.v (.slice none 0 0), .v (.slice none 0 0), vb false]), (10, .box [.s (mI p_d.Synced), .o 29, vb false]), (29, .own 107 2 (mI (p_d.Loose ++ [(⟨p_at, p_data⟩ : api_Page)])))] Q2 J3 rfl ?_
 refine sg ?_
 refine ⟨_, rfl, _, rfl, ?_⟩
 refine wT [(6, .b 6 0), (7, vi (0))] [(6, .box [.s (mI p_d.Synced), .o 29, vb false]), (29, .own 107 2 (mI (p_d.Loose ++ [(⟨p_at, p_data⟩ : api_Page)])))] Q2 J2 rfl ?_
 refine rt ?_
 cases h
 exact ⟨_, rfl, (Fz.t (.cons (Fz.a (.cons Fz.s (.cons (Fz.o rfl) (.cons Fz.v .nil)))) (.cons Fz.v .nil)))⟩
theorem w_ref25_Put {p_d} {p_c} {r} (h : ref25_Put p_d p_c = some r) : Pure Tryz.prog 61 [(.a [(.s (mI p_d.Synced)), (.s (mI p_d.Loose)), (vb p_d.Down)]), (.a [(vi p_c.Id), (vi p_c.Ver), (.s (mU p_c.Data)), (.s (mA p_c.Sums))])] (.t [(.a [(.s (mI r.1.Synced)), (.s (mI r.1.Loose)), (vb r.1.Down)]), (vi r.2)]) := by
 refine po Tryz.tok 18 Tryz.func61 (by kernel_rfl) rfl rfl rfl ?_
 unfold ref25_Put at h
 refine wE [(0, .a [.s (mI p_d.Synced), .s (mI p_d.Loose), vb p_d.Down]), (1, .a [vi p_c.Id, vi p_c.Ver, .s (mU p_c.Data), .s (mA p_c.Sums)])] Q2 ?_
 refine sg ?_
 refine wT [(2, .b 2 0), (3, .b 3 0), (4, .b 4 0)] [(2, .box [.s (mI p_d.Synced), .s (mI p_d.Loose), vb p_d.Down]), (3, .box [vi p_c.Id, vi p_c.Ver, .s (mU p_c.Data), .s (mA p_c.Sums)]), (4, .box [.v (.slice none 0 0), .v (.slice none 0 0), vb false])] Q3 J3 rfl ?_
 refine sq ?_
 refine sg ?_
 obtain ⟨x1, hx1, h⟩ := bindS h
 refine ⟨_, rfl, ?_⟩
 refine CallOk.call (w_ref25_May hx1) (LeL.refl _) ?_
 refine wT [(2, .b 2 0), (3, .b 3 0), (4, .b 4 0), (8, vb (!x1))] [(2, .box [.s (mI p_d.Synced), .s (mI p_d.Loose), vb p_d.Down]), (3, .box [vi p_c.Id, vi p_c.Ver, .s (mU p_c.Data), .s (mA p_c.Sums)]), (4, .box [.v (.slice none 0 0), .v (.slice none 0 0), vb false])] Q4 J3 rfl ?_
 refine cn 8 (!x1) rfl h (fun hb h => ?_) fun hb h => ?_
 ·refine sg ?_
  refine ⟨_, rfl, _, rfl, ?_⟩
  refine wT [(4, .b 4 0), (5, vi (1))] [(4, .box [.s (mI p_d.Synced), .s (mI p_d.Loose), vb p_d.Down])] Q2 J1 rfl ?_
  refine rt ?_
  cases h
  exact ⟨_, rfl, (Fz.t (.cons (Fz.imm rfl) (.cons Fz.v .nil)))⟩
 refine sk ?_
 refine sq ?_
 refine Ok.draw (m := 8) (MD := ⟨[]⟩) (CH := ⟨[]⟩) Tryz.tok Tryz.mixed (by kernel_rfl) ?_
 obtain ⟨x2, hx2, h⟩ := bindS h
 obtain ⟨x3, hx3, h⟩ := bindS h
 refine ⟨_, ⟨_, rfl, rfl⟩, _, rfl, _, ⟨_, rfl, rfl⟩, _, ⟨_, rfl, rfl⟩, _, ⟨_, .of_pure (w_ref25_Page hx2) (LeL.refl _), rfl⟩, _, ⟨_, .of_pure (w_ref04_Write hx3) (LeL.refl _), rfl⟩, _, rfl, _, rfl, Q0, _, rfl, ?_⟩
 refine wT [(4, .b 4 0), (5, vi x3.2)] [(4, .box [.s (mI x3.1.Synced), .s (mI x3.1.Loose), vb x3.1.Down])] Q2 J1 rfl ?_
 refine rt ?_
 cases h
 exact ⟨_, rfl, (Fz.t (.cons (Fz.imm rfl) (.cons Fz.v .nil)))⟩
theorem wo_ref04_lay {p_l} {p_p} {r} (h : ref04_lay p_l p_p = some r) : POwn Tryz.prog 99 [(.s (mI p_l)), (.a [(vi p_p.At), (.s (mU p_p.Data))])] 107 2 (mI r) := by
 refine pw Tryz.tok 52 Tryz.func99 (by kernel_rfl) rfl rfl rfl ?_
 unfold ref04_lay at h
 refine wE [(0, .s (mI p_l)), (1, .a [vi p_p.At, .s (mU p_p.Data)])] Q2 ?_
 refine sg ?_
 refine wT [(0, .s (mI p_l)), (3, .b 3 0)] [(3, .box [vi p_p.At, .s (mU p_p.Data)])] Q2 J1 rfl ?_
 refine sg ?_
 refine wT [(0, .s (mI p_l)), (3, .b 3 0), (5, .v (.slice none 0 0))] [(3, .box [vi p_p.At, .s (mU p_p.Data)])] Q3 J1 rfl ?_
 refine sg ?_
 refine wT [(0, .s (mI p_l)), (3, .b 3 0), (5, .v (.slice none 0 0)), (6, vb false)] [(3, .box [vi p_p.At, .s (mU p_p.Data)])] Q4 J1 rfl ?_
 obtain ⟨v1, hv1, h⟩ := bindS h
 refine Ok.seqw ⟨Cat.tab [(3, .b 3 0), (5, .o 29), (6, vb v1.1)], [(3, .box [vi p_p.At, .s (mU p_p.Data)]), (29, .own 107 2 (mI v1.2))]⟩ ?_ ?_
 ·refine sg ?_
  refine wT [(0, .s (mI p_l)), (3, .b 3 0), (5, .v (.slice none 0 0)), (6, vb false), (7, vi (0))] [(3, .box [vi p_p.At, .s (mU p_p.Data)])] Q5 J1 rfl ?_
  refine bl ?_
  refine Ok.loop (fun (s1 : Bool × Int × (List api_Page)) => ⟨Cat.tab [(0, .s (mI p_l)), (3, .b 3 0), (5, .o 29), (6, vb s1.1), (7, vi s1.2.1)], [(3, .box [vi p_p.At, .s (mU p_p.Data)]), (29, .own 107 2 (mI s1.2.2))]⟩) (ref04_lay_B1 p_l p_p) (s0 := (false, 0, [])) hv1 ((Wk.own0 (t := 5) (id := 29) (E := 107) (K := 2) rfl rfl).trans (wt Q5 ⟨⟨_, rfl, .refl _⟩, ⟨_, rfl, .refl _⟩, Q0⟩ rfl)) ?_
  intro s1 y1 hB1 hy1
  unfold ref04_lay_B1 at hB1
  refine sq ?_
  refine sg ?_
  refine ⟨_, List.length_map _, fun _ => ?_⟩
  refine wT [(0, .s (mI p_l)), (3, .b 3 0), (5, .o 29), (6, vb s1.1), (7, vi s1.2.1), (11, vb (decide (s1.2.1 < (p_l.length : Int))))] [(3, .box [vi p_p.At, .s (mU p_p.Data)]), (29, .own 107 2 (mI s1.2.2))] Q6 J2 rfl ?_
  refine cn 11 (decide (s1.2.1 < (p_l.length : Int))) rfl hB1 (fun hb hB1 => ?_) fun hb hB1 => ?_
  ·refine sk ?_
   obtain ⟨v2, hv2, hB1⟩ := bindS hB1
   refine Ok.seqw ⟨Cat.tab [(0, .s (mI p_l)), (3, .b 3 0), (5, .o 29), (6, vb v2.1), (7, vi s1.2.1)], [(3, .box [vi p_p.At, .s (mU p_p.Data)]), (29, .own 107 2 (mI v2.2))]⟩ ?_ ?_
   ·refine bl ?_
    obtain ⟨v3, hv3, hv2⟩ := bindS hv2
    refine Ok.seqw ⟨Cat.tab [(0, .s (mI p_l)), (3, .b 3 0), (5, .o 29), (6, vb v3.1), (7, vi s1.2.1)], [(3, .box [vi p_p.At, .s (mU p_p.Data)]), (29, .own 107 2 (mI v3.2))]⟩ ?_ ?_
    ·obtain ⟨v4, hv4, hv3⟩ := bindS hv3
     refine Ok.seqw ⟨Cat.tab [(0, .s (mI p_l)), (3, .b 3 0), (5, .o 29), (6, vb s1.1), (7, vi s1.2.1), (25, vb v4)], [(3, .box [vi p_p.At, .s (mU p_p.Data)]), (29, .own 107 2 (mI s1.2.2))]⟩ ?_ ?_
     ·refine Ok.draw (m := 12) (MD := ⟨[]⟩) (CH := ⟨[]⟩) Tryz.tok Tryz.mixed (by kernel_rfl) ?_
      refine ⟨_, rfl, _, rfl, _, rfl, ?_⟩
      obtain ⟨c1, hg1, hv4⟩ := bindS hv4
      refine Br.ite hg1 (fun hb hg1 => ?_) fun hb hg1 => ?_
      ·obtain ⟨x1, hx1, hg1⟩ := bindS hg1
       refine ⟨_, rfl, _, rfl, _, ⟨_, idx_nat hx1, _, idx_row hx1, rfl⟩, _, rfl, _, ⟨_, rfl, rfl⟩, _, rfl, _, ⟨_, rfl, rfl⟩, _, rfl, ?_⟩
       cases hg1
       refine ⟨_, rfl, ?_⟩
       refine ⟨Q0, ?_⟩
       cases hv4
       exact wt Q6 J2 rfl
      cases hg1
      refine ⟨_, rfl, ?_⟩
      refine ⟨Q0, ?_⟩
      cases hv4
      exact wt Q6 J2 rfl
     refine cn 25 (v4) rfl hv3 (fun hb hv3 => ?_) fun hb hv3 => ?_
     ·refine sg ?_
      obtain ⟨hc1, hv3⟩ := chk_some hv3
      refine ⟨_, rfl, Or.inl ⟨rowsLen_map (f := c_api_Page) (n := 2) (fun _ => rfl) ([p_p]), app_b2 (f := c_api_Page) (l := s1.2.2) (l' := [p_p]) hc1, _, (List.map_append (f := c_api_Page) (l₁ := s1.2.2) (l₂ := [p_p])).symm, ?_⟩⟩
      refine wT [(0, .s (mI p_l)), (3, .b 3 0), (5, .o 29), (7, vi s1.2.1)] [(3, .box [vi p_p.At, .s (mU p_p.Data)]), (29, .own 107 2 (mI (s1.2.2 ++ [p_p])))] Q4 J2 rfl ?_
      refine rg ?_
      cases hv3
      exact wt Q5 J2 rfl
     refine sk ?_
     cases hv3
     exact wt Q5 J2 rfl
    refine sq ?_
    refine Ok.draw (m := 8) (MD := ⟨[]⟩) (CH := ⟨[]⟩) Tryz.tok Tryz.mixed (by kernel_rfl) ?_
    obtain ⟨x2, hx2, hv2⟩ := bindS hv2
    refine ⟨_, rfl, _, rfl, _, ⟨_, idx_nat hx2, _, idx_row hx2, rfl⟩, _, rfl, _, ⟨_, rfl, rfl⟩, _, rfl, _, ⟨_, rfl, rfl⟩, _, rfl, Q0, ?_⟩
    refine wT [(0, .s (mI p_l)), (3, .b 3 0), (5, .o 29), (6, vb v3.1), (7, vi s1.2.1), (37, vb (x2.At != p_p.At))] [(3, .box [vi p_p.At, .s (mU p_p.Data)]), (29, .own 107 2 (mI v3.2))] Q6 J2 rfl ?_
    refine cn 37 (x2.At != p_p.At) rfl hv2 (fun hb hv2 => ?_) fun hb hv2 => ?_
    ·refine rg ?_
     obtain ⟨x3, hx3, hv2⟩ := bindS hv2
     obtain ⟨hc2, hv2⟩ := chk_some hv2
     refine ⟨_, idx_nat hx3, _, idx_row hx3, _, rfl, Or.inl ⟨rowsLen_map (f := c_api_Page) (n := 2) (fun _ => rfl) ([x3]), app_b2 (f := c_api_Page) (l := v3.2) (l' := [x3]) hc2, _, (List.map_append (f := c_api_Page) (l₁ := v3.2) (l₂ := [x3])).symm, ?_⟩⟩
     cases hv2
     exact wt Q5 J2 rfl
    refine sk ?_
    cases hv2
    exact wt Q5 J2 rfl
   refine rg ?_
   obtain ⟨hc3, hB1⟩ := chk_some hB1
   refine (Or.inl ⟨hc3, ?_⟩)
   exact ⟨_, sj hB1, wt Q5 J2 rfl⟩
  refine xt ?_
  have hB1 := out_ret hB1 hy1
  cases hB1
  exact wt Q3 J2 rfl
 obtain ⟨v5, hv5, h⟩ := bindS h
 refine Ok.seqw ⟨Cat.tab [(5, .o 29)], [(29, .own 107 2 (mI v5))]⟩ ?_ ?_
 ·refine sg ?_
  refine wT [(3, .b 3 0), (5, .o 29), (46, vb (!v1.1))] [(3, .box [vi p_p.At, .s (mU p_p.Data)]), (29, .own 107 2 (mI v1.2))] Q3 J2 rfl ?_
  refine cn 46 (!v1.1) rfl hv5 (fun hb hv5 => ?_) fun hb hv5 => ?_
  ·refine rg ?_
   obtain ⟨hc4, hv5⟩ := chk_some hv5
   refine ⟨_, rfl, Or.inl ⟨rowsLen_map (f := c_api_Page) (n := 2) (fun _ => rfl) ([p_p]), app_b2 (f := c_api_Page) (l := v1.2) (l' := [p_p]) hc4, _, (List.map_append (f := c_api_Page) (l₁ := v1.2) (l₂ := [p_p])).symm, ?_⟩⟩
   cases hv5
   exact wt Q1 J1 rfl
  refine sk ?_
  cases hv5
  exact wt Q1 J1 rfl
 refine sg ?_
 refine wT [(4, .o 29)] [(29, .own 107 2 (mI v5))] Q1 J1 rfl ?_
 refine rt ?_
 cases h
 exact (.inr ⟨_, rfl, rfl⟩)
theorem w_ref04_lay {p_l} {p_p} {r} (h : ref04_lay p_l p_p = some r) : Pure Tryz.prog 99 [(.s (mI p_l)), (.a [(vi p_p.At), (.s (mU p_p.Data))])] (.s (mI r)) := (wo_ref04_lay h).pure
theorem w_ref04_Sync {p_d} {r} (h : ref04_Sync p_d = some r) : Pure Tryz.prog 62 [(.a [(.s (mI p_d.Synced)), (.s (mI p_d.Loose)), (vb p_d.Down)])] (.t [(.a [(.s (mI r.1.Synced)), (.s (mI r.1.Loose)), (vb r.1.Down)]), (vi r.2)]) := by
 refine po Tryz.tok 29 Tryz.func62 (by kernel_rfl) rfl rfl rfl ?_
 unfold ref04_Sync at h
 refine wE [(0, .a [.s (mI p_d.Synced), .s (mI p_d.Loose), vb p_d.Down])] Q1 ?_
 refine sg ?_
 refine wT [(1, .b 1 0), (2, .b 2 0)] [(1, .box [.s (mI p_d.Synced), .s (mI p_d.Loose), vb p_d.Down]), (2, .box [.v (.slice none 0 0), .v (.slice none 0 0), vb false])] Q2 J2 rfl ?_
 refine sq ?_
 refine sg ?_
 refine ⟨_, rfl, ?_⟩
 refine wT [(1, .b 1 0), (2, .b 2 0), (7, vb p_d.Down)] [(1, .box [.s (mI p_d.Synced), .s (mI p_d.Loose), vb p_d.Down]), (2, .box [.v (.slice none 0 0), .v (.slice none 0 0), vb false])] Q3 J2 rfl ?_
 refine cn 7 (p_d.Down) rfl h (fun hb h => ?_) fun hb h => ?_
 ·refine sg ?_
  refine ⟨_, rfl, _, rfl, ?_⟩
  refine wT [(2, .b 2 0), (3, vi (40))] [(2, .box [.s (mI p_d.Synced), .s (mI p_d.Loose), vb p_d.Down])] Q2 J1 rfl ?_
  refine rt ?_
  cases h
  exact ⟨_, rfl, (Fz.t (.cons (Fz.imm rfl) (.cons Fz.v .nil)))⟩
 refine sk ?_
 refine sg ?_
 refine ⟨_, rfl, _, rfl, ?_⟩
 refine wT [(1, .b 1 0), (2, .b 2 0), (4, .b 4 0)] [(1, .box [.s (mI p_d.Synced), .s (mI p_d.Loose), vb p_d.Down]), (2, .box [.v (.slice none 0 0), .v (.slice none 0 0), vb false]), (4, .box [.s (mI p_d.Synced), .v (.slice none 0 0), vb false])] Q3 J3 rfl ?_
 obtain ⟨v1, hv1, h⟩ := bindS h
 refine Ok.seqw ⟨Cat.tab [(2, .b 2 0), (4, .b 4 0)], [(2, .box [.v (.slice none 0 0), .v (.slice none 0 0), vb false]), (4, .box [.s (mI v1), .v (.slice none 0 0), vb false])]⟩ ?_ ?_
 ·refine sg ?_
  refine wT [(1, .b 1 0), (2, .b 2 0), (4, .b 4 0), (5, vi (0))] [(1, .box [.s (mI p_d.Synced), .s (mI p_d.Loose), vb p_d.Down]), (2, .box [.v (.slice none 0 0), .v (.slice none 0 0), vb false]), (4, .box [.s (mI p_d.Synced), .v (.slice none 0 0), vb false])] Q4 J3 rfl ?_
  refine bl ?_
  refine Ok.loop (fun (s1 : Int × (List api_Page)) => ⟨Cat.tab [(1, .b 1 0), (2, .b 2 0), (4, .b 4 0), (5, vi s1.1)], [(1, .box [.s (mI p_d.Synced), .s (mI p_d.Loose), vb p_d.Down]), (2, .box [.v (.slice none 0 0), .v (.slice none 0 0), vb false]), (4, .box [.s (mI s1.2), .v (.slice none 0 0), vb false])]⟩) (ref04_Sync_B1 p_d) (s0 := (0, p_d.Synced)) hv1 (wt Q4 ⟨⟨_, rfl, .refl _⟩, ⟨_, rfl, .refl _⟩, ⟨_, rfl, .refl _⟩, Q0⟩ rfl) ?_
  intro s1 y1 hB1 hy1
  unfold ref04_Sync_B1 at hB1
  refine sq ?_
  refine sg ?_
  refine ⟨_, rfl, _, List.length_map _, fun _ => ?_⟩
  refine wT [(1, .b 1 0), (2, .b 2 0), (4, .b 4 0), (5, vi s1.1), (16, vb (decide (s1.1 < (p_d.Loose.length : Int))))] [(1, .box [.s (mI p_d.Synced), .s (mI p_d.Loose), vb p_d.Down]), (2, .box [.v (.slice none 0 0), .v (.slice none 0 0), vb false]), (4, .box [.s (mI s1.2), .v (.slice none 0 0), vb false])] Q5 J3 rfl ?_
  refine cn 16 (decide (s1.1 < (p_d.Loose.length : Int))) rfl hB1 (fun hb hB1 => ?_) fun hb hB1 => ?_
  ·refine sk ?_
   refine sq ?_
   refine bl ?_
   refine Ok.draw (m := 9) (MD := ⟨[]⟩) (CH := ⟨[]⟩) Tryz.tok Tryz.mixed (by kernel_rfl) ?_
   obtain ⟨x1, hx1, hB1⟩ := bindS hB1
   obtain ⟨x2, hx2, hB1⟩ := bindS hB1
   refine ⟨_, rfl, _, ⟨_, rfl, rfl⟩, _, rfl, _, ⟨_, rfl, rfl⟩, _, rfl, _, ⟨_, idx_nat hx1, _, idx_row hx1, rfl⟩, _, ⟨_, rfl, rfl⟩, _, ⟨_, .of_pure (w_ref04_lay hx2) (LeL.refl _), rfl⟩, _, rfl, Q0, _, rfl, ?_⟩
   refine wT [(1, .b 1 0), (2, .b 2 0), (4, .b 4 0), (5, vi s1.1)] [(1, .box [.s (mI p_d.Synced), .s (mI p_d.Loose), vb p_d.Down]), (2, .box [.v (.slice none 0 0), .v (.slice none 0 0), vb false]), (4, .box [.s (mI x2), .v (.slice none 0 0), vb false])] Q4 J3 rfl ?_
   refine rg ?_
   obtain ⟨hc1, hB1⟩ := chk_some hB1
   refine (Or.inl ⟨hc1, ?_⟩)
   exact ⟨_, sj hB1, wt Q4 J3 rfl⟩
  refine xt ?_
  have hB1 := out_ret hB1 hy1
  cases hB1
  exact wt Q2 J2 rfl
 refine sg ?_
 refine ⟨_, rfl, _, rfl, ?_⟩
 refine wT [(2, .b 2 0), (3, vi (0))] [(2, .box [.s (mI v1), .v (.slice none 0 0), vb false])] Q2 J1 rfl ?_
 refine rt ?_
 cases h
 exact ⟨_, rfl, (Fz.t (.cons (Fz.a (.cons Fz.s (.cons Fz.nil (.cons Fz.v .nil)))) (.cons Fz.v .nil)))⟩
theorem wo_ref27_with {p_disks} {p_s} {p_d} {r} (h : ref27_with p_disks p_s p_d = some r) : POwn Tryz.prog 63 [(.s (mB p_disks)), (vi p_s), (.a [(.s (mI p_d.Synced)), (.s (mI p_d.Loose)), (vb p_d.Down)])] 57 3 (mB r) := by
 refine pw Tryz.tok 16 Tryz.func63 (by kernel_rfl) rfl rfl rfl ?_
 unfold ref27_with at h
 refine wE [(0, .s (mB p_disks)), (1, vi p_s), (2, .a [.s (mI p_d.Synced), .s (mI p_d.Loose), vb p_d.Down])] Q3 ?_
 refine sg ?_
 refine wT [(0, .s (mB p_disks)), (1, vi p_s), (5, .b 5 0)] [(5, .box [.s (mI p_d.Synced), .s (mI p_d.Loose), vb p_d.Down])] Q3 J1 rfl ?_
 refine sg ?_
 obtain ⟨hc1, h⟩ := chk_some h
 refine Or.inr ⟨rowsLen_map (f := c_api_Disk) (n := 3) (fun _ => rfl) p_disks, app_b2 (f := c_api_Disk) (l := ([] : List api_Disk)) (l' := p_disks) hc1, _, (List.map_append (f := c_api_Disk) (l₁ := ([] : List api_Disk)) (l₂ := p_disks)).symm, ?_⟩
 refine wT [(1, vi p_s), (5, .b 5 0), (7, .o 8)] [(5, .box [.s (mI p_d.Synced), .s (mI p_d.Loose), vb p_d.Down]), (8, .own 57 3 (mB (([] : List api_Disk) ++ p_disks)))] Q3 J2 rfl ?_
 refine sg ?_
 obtain ⟨x1, hx1, h⟩ := bindS h
 refine ⟨_, rfl, _, idx_nat hx1, idx_ltm hx1, _, idx_row hx1, rfl, _, rfl, _, set_row (f := c_api_Disk) (x := p_d), ?_⟩
 refine wT [(7, .o 8)] [(8, .own 57 3 (mB ((([] : List api_Disk) ++ p_disks).set p_s.toNat p_d)))] Q1 J1 rfl ?_
 refine sg ?_
 refine wT [(6, .o 8)] [(8, .own 57 3 (mB ((([] : List api_Disk) ++ p_disks).set p_s.toNat p_d)))] Q1 J1 rfl ?_
 refine rt ?_
 cases h
 exact (.inr ⟨_, rfl, rfl⟩)
theorem w_ref27_with {p_disks} {p_s} {p_d} {r} (h : ref27_with p_disks p_s p_d = some r) : Pure Tryz.prog 63 [(.s (mB p_disks)), (vi p_s), (.a [(.s (mI p_d.Synced)), (.s (mI p_d.Loose)), (vb p_d.Down)])] (.s (mB r)) := (wo_ref27_with h).pure
end Go.Proofs
