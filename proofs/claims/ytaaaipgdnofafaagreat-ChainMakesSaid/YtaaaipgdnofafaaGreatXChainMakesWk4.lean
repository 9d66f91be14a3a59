/- The walks of this seat beside the plain programs, part 4. No condition. -/
import Derived.Test.YtaaaipgdnofafaaGreatXChainMakesEn
import Derived.Test.YtaaaipgdnofafaaGreatXChainMakesWk0
import Derived.Test.YtaaaipgdnofafaaGreatXChainMakesWk1
import Derived.Test.YtaaaipgdnofafaaGreatXChainMakesWk2
import Derived.Test.YtaaaipgdnofafaaGreatXChainMakesWk3
namespace Go.Proofs
set_option linter.all false
open Go Go.Cat
variable [M : Mono]
set_option maxRecDepth 100000
theorem w_ref26_Make {p_id} {p_servers} {p_disks} {p_data} {r} (h : ref26_Make p_id p_servers p_disks p_data = some r) : Pure Tryz.prog 11 [(vi p_id), (.s (mI p_servers)), (.s (mA p_disks)), (.s (mU p_data))] (.t [(.a [(vi r.1.Id), (vi r.1.Ver), (.s (mI r.1.Servers))]), (.s (mA r.2.1)), (vi r.2.2)]) := by
 refine po Tryz.tok 57 Tryz.func11 (by kernel_rfl) rfl rfl rfl ?_
 unfold ref26_Make at h
 refine wE [(0, vi p_id), (1, .s (mI p_servers)), (2, .s (mA p_disks)), (3, .s (mU p_data))] Q4 ?_
 refine sg ?_
 refine wT [(0, vi p_id), (1, .s (mI p_servers)), (2, .s (mA p_disks)), (3, .s (mU p_data)), (8, .b 8 0)] [(8, .box [vi (0), vi (0), .v (.slice none 0 0)])] Q5 J1 rfl ?_
 refine sg ?_
 refine ⟨_, rfl, ?_⟩
 refine wT [(1, .s (mI p_servers)), (2, .s (mA p_disks)), (3, .s (mU p_data)), (8, .b 8 0), (11, .b 11 0)] [(8, .box [vi (0), vi (0), .v (.slice none 0 0)]), (11, .box [vi p_id, vi (1), .s (mI p_servers)])] Q5 J2 rfl ?_
 refine sg ?_
 obtain ⟨x1, hx1, h⟩ := bindS h
 refine ⟨_, rfl, ?_⟩
 refine CallOk.call (w_ref26_Right hx1) (LeL.refl _) ?_
 refine wT [(1, .s (mI p_servers)), (2, .s (mA p_disks)), (3, .s (mU p_data)), (8, .b 8 0), (11, .b 11 0), (12, vb x1)] [(8, .box [vi (0), vi (0), .v (.slice none 0 0)]), (11, .box [vi p_id, vi (1), .s (mI p_servers)])] Q6 J2 rfl ?_
 refine sq ?_
 obtain ⟨v1, hv1, h⟩ := bindS h
 refine Ok.seqw ⟨Cat.tab [(1, .s (mI p_servers)), (2, .s (mA p_disks)), (3, .s (mU p_data)), (8, .b 8 0), (11, .b 11 0), (27, vb v1)], [(8, .box [vi (0), vi (0), .v (.slice none 0 0)]), (11, .box [vi p_id, vi (1), .s (mI p_servers)])]⟩ ?_ ?_
 ·refine rg ?_
  obtain ⟨c1, hg1, hv1⟩ := bindS hv1
  refine Br.itf hg1 (fun hb hg1 => ?_) fun hb hg1 => ?_
  ·cases hg1
   cases hv1
   exact wt Q6 J2 rfl
  refine ⟨_, List.length_map _, fun _ => ?_⟩
  cases hg1
  cases hv1
  exact wt Q6 J2 rfl
 refine cn 27 (v1) rfl h (fun hb h => ?_) fun hb h => ?_
 ·refine sg ?_
  refine ⟨_, rfl, ?_⟩
  refine wT [(8, .b 8 0), (9, .s (mA p_disks)), (10, vi (1))] [(8, .box [vi (0), vi (0), .v (.slice none 0 0)])] Q3 J1 rfl ?_
  refine rt ?_
  cases h
  exact ⟨_, rfl, (Fz.t (.cons (Fz.a (.cons Fz.v (.cons Fz.v (.cons Fz.nil .nil)))) (.cons Fz.s (.cons Fz.v .nil))))⟩
 refine sk ?_
 refine sg ?_
 refine wT [(1, .s (mI p_servers)), (2, .s (mA p_disks)), (3, .s (mU p_data)), (8, .b 8 0), (11, .b 11 0), (13, .s (mA p_disks))] [(8, .box [vi (0), vi (0), .v (.slice none 0 0)]), (11, .box [vi p_id, vi (1), .s (mI p_servers)])] Q6 J2 rfl ?_
 refine Ok.seqj (fun v2 => ⟨Cat.tab [(8, .b 8 0), (11, .b 11 0), (13, .s (mA v2))], [(8, .box [vi (0), vi (0), .v (.slice none 0 0)]), (11, .box [vi p_id, vi (1), .s (mI p_servers)])]⟩) (fun v2 => ref26_Make_J1 p_id p_servers v2 = some r) ?_ ?_
 ·refine sg ?_
  refine wT [(1, .s (mI p_servers)), (2, .s (mA p_disks)), (3, .s (mU p_data)), (8, .b 8 0), (11, .b 11 0), (13, .s (mA p_disks)), (14, vi (0))] [(8, .box [vi (0), vi (0), .v (.slice none 0 0)]), (11, .box [vi p_id, vi (1), .s (mI p_servers)])] Q7 J2 rfl ?_
  refine bl ?_
  refine Ok.loop (fun (s1 : (List api_Disk) × Int) => ⟨Cat.tab [(1, .s (mI p_servers)), (2, .s (mA p_disks)), (3, .s (mU p_data)), (8, .b 8 0), (11, .b 11 0), (13, .s (mA s1.1)), (14, vi s1.2)], [(8, .box [vi (0), vi (0), .v (.slice none 0 0)]), (11, .box [vi p_id, vi (1), .s (mI p_servers)])]⟩) (ref26_Make_B1 p_servers p_disks p_id p_data) (s0 := (p_disks, 0)) h (wt Q7 ⟨⟨_, rfl, .refl _⟩, ⟨_, rfl, .refl _⟩, Q0⟩ rfl) ?_
  intro s1 y1 hB1 hy1
  unfold ref26_Make_B1 at hB1
  refine sq ?_
  refine sg ?_
  refine ⟨_, List.length_map _, fun _ => ?_⟩
  refine wT [(1, .s (mI p_servers)), (2, .s (mA p_disks)), (3, .s (mU p_data)), (8, .b 8 0), (11, .b 11 0), (13, .s (mA s1.1)), (14, vi s1.2), (34, vb (decide (s1.2 < (p_servers.length : Int))))] [(8, .box [vi (0), vi (0), .v (.slice none 0 0)]), (11, .box [vi p_id, vi (1), .s (mI p_servers)])] Q8 J2 rfl ?_
  refine cn 34 (decide (s1.2 < (p_servers.length : Int))) rfl hB1 (fun hb hB1 => ?_) fun hb hB1 => ?_
  ·refine sk ?_
   refine sq ?_
   refine bl ?_
   refine sq ?_
   refine sg ?_
   obtain ⟨x2, hx2, hB1⟩ := bindS hB1
   obtain ⟨x3, hx3, hB1⟩ := bindS hB1
   refine ⟨_, idx_nat hx2, _, idx_row hx2, _, rfl, _, idx_nat hx3, _, idx_row hx3, _, rfl, ?_⟩
   refine wT [(1, .s (mI p_servers)), (2, .s (mA p_disks)), (3, .s (mU p_data)), (8, .b 8 0), (11, .b 11 0), (13, .s (mA s1.1)), (14, vi s1.2), (44, vb x3.Down)] [(8, .box [vi (0), vi (0), .v (.slice none 0 0)]), (11, .box [vi p_id, vi (1), .s (mI p_servers)])] Q8 J2 rfl ?_
   refine cn 44 (x3.Down) rfl hB1 (fun hb hB1 => ?_) fun hb hB1 => ?_
   ·refine sg ?_
    refine ⟨_, rfl, ?_⟩
    refine wT [(8, .b 8 0), (9, .s (mA p_disks)), (10, vi (40))] [(8, .box [vi (0), vi (0), .v (.slice none 0 0)])] Q3 J1 rfl ?_
    refine rt ?_
    have hB1 := out_ret hB1 hy1
    cases hB1
    exact ⟨_, rfl, (Fz.t (.cons (Fz.a (.cons Fz.v (.cons Fz.v (.cons Fz.nil .nil)))) (.cons Fz.s (.cons Fz.v .nil))))⟩
   refine sk ?_
   refine Ok.draw (m := 8) (MD := ⟨[]⟩) (CH := ⟨[]⟩) Tryz.tok Tryz.mixed (by kernel_rfl) ?_
   obtain ⟨x4, hx4, hB1⟩ := bindS hB1
   obtain ⟨x5, hx5, hB1⟩ := bindS hB1
   refine ⟨_, ⟨_, rfl, rfl⟩, _, rfl, _, rfl, _, rfl, _, ⟨_, idx_nat hx4, _, idx_row hx4, rfl⟩, _, ⟨_, rfl, rfl⟩, _, rfl, _, ⟨_, .of_pure (w_ref26_Lay hx5) (LeL.refl _), rfl⟩, Q0, ?_⟩
   refine wT [(1, .s (mI p_servers)), (2, .s (mA p_disks)), (3, .s (mU p_data)), (8, .b 8 0), (11, .b 11 0), (13, .s (mA x5)), (14, vi s1.2)] [(8, .box [vi (0), vi (0), .v (.slice none 0 0)]), (11, .box [vi p_id, vi (1), .s (mI p_servers)])] Q7 J2 rfl ?_
   refine rg ?_
   obtain ⟨hc1, hB1⟩ := chk_some hB1
   refine (Or.inl ⟨hc1, ?_⟩)
   exact ⟨_, sj hB1, wt Q7 J2 rfl⟩
  refine xt ?_
  have hB1 := out_ret hB1 hy1
  exact ⟨_, hB1, wt Q3 ⟨⟨_, rfl, .refl _⟩, ⟨_, rfl, .refl _⟩, Q0⟩ rfl⟩
 intro v2 h
 unfold ref26_Make_J1 at h
 refine sg ?_
 refine ⟨_, rfl, _, rfl, ?_⟩
 refine wT [(8, .b 8 0), (9, .s (mA v2)), (10, vi (0))] [(8, .box [vi p_id, vi (1), .s (mI p_servers)])] Q3 J1 rfl ?_
 refine rt ?_
 cases h
 exact ⟨_, rfl, (Fz.t (.cons (Fz.imm rfl) (.cons Fz.s (.cons Fz.v .nil))))⟩
theorem w_ref04_Pages {p_a} {p_b} {r} (h : ref04_Pages p_a p_b = some r) : Pure Tryz.prog 66 [(.s (mB p_a)), (.s (mB p_b))] (vb r) := by
 refine po Tryz.tok 44 Tryz.func66 (by kernel_rfl) rfl rfl rfl ?_
 unfold ref04_Pages at h
 refine wE [(0, .s (mB p_a)), (1, .s (mB p_b))] Q2 ?_
 refine sg ?_
 refine wE [(0, .s (mB p_a)), (1, .s (mB p_b))] Q2 ?_
 refine sq ?_
 refine sg ?_
 refine ⟨_, List.length_map _, fun _ => ⟨_, List.length_map _, fun _ => ?_⟩⟩
 refine wE [(0, .s (mB p_a)), (1, .s (mB p_b)), (11, vb ((p_a.length : Int) != (p_b.length : Int)))] Q3 ?_
 refine cn 11 ((p_a.length : Int) != (p_b.length : Int)) rfl h (fun hb h => ?_) fun hb h => ?_
 ·refine sg ?_
  refine wE [(4, vb false)] Q1 ?_
  refine rt ?_
  cases h
  exact Fz.v
 refine sk ?_
 refine Ok.seqj (fun v1 => ⟨Cat.tab [], []⟩) (fun v1 => ref04_Pages_J1 v1 = some r) ?_ ?_
 ·refine sg ?_
  refine wE [(0, .s (mB p_a)), (1, .s (mB p_b)), (5, vi (0))] Q3 ?_
  refine bl ?_
  refine Ok.loop (fun (s1 : Int) => ⟨Cat.tab [(0, .s (mB p_a)), (1, .s (mB p_b)), (5, vi s1)], []⟩) (ref04_Pages_B1 p_a p_b) (s0 := 0) h (wt Q3 Q0 rfl) ?_
  intro s1 y1 hB1 hy1
  unfold ref04_Pages_B1 at hB1
  refine sq ?_
  refine sg ?_
  refine ⟨_, List.length_map _, fun _ => ?_⟩
  refine wE [(0, .s (mB p_a)), (1, .s (mB p_b)), (5, vi s1), (15, vb (decide (s1 < (p_a.length : Int))))] Q4 ?_
  refine cn 15 (decide (s1 < (p_a.length : Int))) rfl hB1 (fun hb hB1 => ?_) fun hb hB1 => ?_
  ·refine sk ?_
   refine sq ?_
   refine bl ?_
   refine sq ?_
   refine Ok.draw (m := 12) (MD := ⟨[]⟩) (CH := ⟨[]⟩) Tryz.tok Tryz.mixed (by kernel_rfl) ?_
   obtain ⟨x1, hx1, hB1⟩ := bindS hB1
   obtain ⟨x2, hx2, hB1⟩ := bindS hB1
   obtain ⟨x3, hx3, hB1⟩ := bindS hB1
   refine ⟨_, rfl, _, rfl, _, ⟨_, idx_nat hx1, _, idx_row hx1, rfl⟩, _, rfl, _, ⟨_, rfl, rfl⟩, _, rfl, _, rfl, _, ⟨_, idx_nat hx2, _, idx_row hx2, rfl⟩, _, rfl, _, ⟨_, rfl, rfl⟩, _, ⟨_, .of_pure (w_ref04_Bytes hx3) (LeL.refl _), rfl⟩, _, rfl, Q0, ?_⟩
   refine wE [(0, .s (mB p_a)), (1, .s (mB p_b)), (5, vi s1), (6, vb x3)] Q4 ?_
   obtain ⟨v2, hv2, hB1⟩ := bindS hB1
   refine Ok.seqw ⟨Cat.tab [(0, .s (mB p_a)), (1, .s (mB p_b)), (5, vi s1), (43, vb v2)], []⟩ ?_ ?_
   ·refine Ok.draw (m := 15) (MD := ⟨[]⟩) (CH := ⟨[]⟩) Tryz.tok Tryz.mixed (by kernel_rfl) ?_
    refine ⟨_, rfl, _, rfl, _, rfl, ?_⟩
    obtain ⟨c1, hg1, hv2⟩ := bindS hv2
    refine Br.itf hg1 (fun hb hg1 => ?_) fun hb hg1 => ?_
    ·cases hg1
     refine ⟨_, rfl, ?_⟩
     refine ⟨Q0, ?_⟩
     cases hv2
     exact wt Q4 Q0 rfl
    obtain ⟨x4, hx4, hg1⟩ := bindS hg1
    obtain ⟨x5, hx5, hg1⟩ := bindS hg1
    refine ⟨_, rfl, _, rfl, _, ⟨_, idx_nat hx4, _, idx_row hx4, rfl⟩, _, rfl, _, ⟨_, rfl, rfl⟩, _, rfl, _, rfl, _, ⟨_, idx_nat hx5, _, idx_row hx5, rfl⟩, _, rfl, _, ⟨_, rfl, rfl⟩, _, rfl, ?_⟩
    cases hg1
    refine ⟨_, rfl, ?_⟩
    refine ⟨Q0, ?_⟩
    cases hv2
    exact wt Q4 Q0 rfl
   refine cn 43 (v2) rfl hB1 (fun hb hB1 => ?_) fun hb hB1 => ?_
   ·refine sg ?_
    refine wE [(4, vb false)] Q1 ?_
    refine rt ?_
    have hB1 := out_ret hB1 hy1
    cases hB1
    exact Fz.v
   refine sk ?_
   refine rg ?_
   obtain ⟨hc1, hB1⟩ := chk_some hB1
   refine (Or.inl ⟨hc1, ?_⟩)
   exact ⟨_, sj hB1, wt Q3 Q0 rfl⟩
  refine xt ?_
  have hB1 := out_ret hB1 hy1
  exact ⟨_, hB1, wt Q0 Q0 rfl⟩
 intro v1 h
 unfold ref04_Pages_J1 at h
 refine sg ?_
 refine wE [(4, vb true)] Q1 ?_
 refine rt ?_
 cases h
 exact Fz.v
theorem w_ref04_Same {p_a} {p_b} {r} (h : ref04_Same p_a p_b = some r) : Pure Tryz.prog 42 [(.a [(.s (mB p_a.Synced)), (.s (mB p_a.Loose)), (vb p_a.Down)]), (.a [(.s (mB p_b.Synced)), (.s (mB p_b.Loose)), (vb p_b.Down)])] (vb r) := by
 refine po Tryz.tok 28 Tryz.func42 (by kernel_rfl) rfl rfl rfl ?_
 unfold ref04_Same at h
 refine wE [(0, .a [.s (mB p_a.Synced), .s (mB p_a.Loose), vb p_a.Down]), (1, .a [.s (mB p_b.Synced), .s (mB p_b.Loose), vb p_b.Down])] Q2 ?_
 refine sg ?_
 refine wT [(2, .b 2 0), (3, .b 3 0)] [(2, .box [.s (mB p_a.Synced), .s (mB p_a.Loose), vb p_a.Down]), (3, .box [.s (mB p_b.Synced), .s (mB p_b.Loose), vb p_b.Down])] Q2 J2 rfl ?_
 refine sg ?_
 obtain ⟨x1, hx1, h⟩ := bindS h
 refine ⟨_, rfl, _, rfl, ?_⟩
 refine CallOk.call (w_ref04_Pages hx1) (LeL.refl _) ?_
 refine wT [(2, .b 2 0), (3, .b 3 0), (5, vb x1)] [(2, .box [.s (mB p_a.Synced), .s (mB p_a.Loose), vb p_a.Down]), (3, .box [.s (mB p_b.Synced), .s (mB p_b.Loose), vb p_b.Down])] Q3 J2 rfl ?_
 refine sg ?_
 obtain ⟨x2, hx2, h⟩ := bindS h
 refine ⟨_, rfl, _, rfl, ?_⟩
 refine CallOk.call (w_ref04_Pages hx2) (LeL.refl _) ?_
 refine wT [(2, .b 2 0), (3, .b 3 0), (5, vb x1), (6, vb x2)] [(2, .box [.s (mB p_a.Synced), .s (mB p_a.Loose), vb p_a.Down]), (3, .box [.s (mB p_b.Synced), .s (mB p_b.Loose), vb p_b.Down])] Q4 J2 rfl ?_
 obtain ⟨v1, hv1, h⟩ := bindS h
 refine Ok.seqw ⟨Cat.tab [(4, vb v1)], []⟩ ?_ ?_
 ·refine rg ?_
  obtain ⟨c1, hg1, hv1⟩ := bindS hv1
  refine Br.ite hg1 (fun hb hg1 => ?_) fun hb hg1 => ?_
  ·cases hg1
   obtain ⟨c2, hg2, hv1⟩ := bindS hv1
   refine Br.ite hg2 (fun hb hg2 => ?_) fun hb hg2 => ?_
   ·refine ⟨_, rfl, _, rfl, ?_⟩
    cases hg2
    cases hv1
    exact wt Q1 Q0 rfl
   cases hg2
   cases hv1
   exact wt Q1 Q0 rfl
  cases hg1
  obtain ⟨c2, hg3, hv1⟩ := bindS hv1
  replace hg3 := iteF hg3
  cases hg3
  cases hv1
  exact wt Q1 Q0 rfl
 refine rt ?_
 cases h
 exact Fz.v
theorem w_ref26_Disks {p_a} {p_b} {r} (h : ref26_Disks p_a p_b = some r) : Pure Tryz.prog 13 [(.s (mA p_a)), (.s (mA p_b))] (vb r) := by
 refine po Tryz.tok 29 Tryz.func13 (by kernel_rfl) rfl rfl rfl ?_
 unfold ref26_Disks at h
 refine wE [(0, .s (mA p_a)), (1, .s (mA p_b))] Q2 ?_
 refine sg ?_
 refine wE [(0, .s (mA p_a)), (1, .s (mA p_b))] Q2 ?_
 refine sq ?_
 refine sg ?_
 refine ⟨_, List.length_map _, fun _ => ⟨_, List.length_map _, fun _ => ?_⟩⟩
 refine wE [(0, .s (mA p_a)), (1, .s (mA p_b)), (11, vb ((p_a.length : Int) != (p_b.length : Int)))] Q3 ?_
 refine cn 11 ((p_a.length : Int) != (p_b.length : Int)) rfl h (fun hb h => ?_) fun hb h => ?_
 ·refine sg ?_
  refine wE [(4, vb false)] Q1 ?_
  refine rt ?_
  cases h
  exact Fz.v
 refine sk ?_
 refine Ok.seqj (fun v1 => ⟨Cat.tab [], []⟩) (fun v1 => ref26_Disks_J1 v1 = some r) ?_ ?_
 ·refine sg ?_
  refine wE [(0, .s (mA p_a)), (1, .s (mA p_b)), (5, vi (0))] Q3 ?_
  refine bl ?_
  refine Ok.loop (fun (s1 : Int) => ⟨Cat.tab [(0, .s (mA p_a)), (1, .s (mA p_b)), (5, vi s1)], []⟩) (ref26_Disks_B1 p_a p_b) (s0 := 0) h (wt Q3 Q0 rfl) ?_
  intro s1 y1 hB1 hy1
  unfold ref26_Disks_B1 at hB1
  refine sq ?_
  refine sg ?_
  refine ⟨_, List.length_map _, fun _ => ?_⟩
  refine wE [(0, .s (mA p_a)), (1, .s (mA p_b)), (5, vi s1), (15, vb (decide (s1 < (p_a.length : Int))))] Q4 ?_
  refine cn 15 (decide (s1 < (p_a.length : Int))) rfl hB1 (fun hb hB1 => ?_) fun hb hB1 => ?_
  ·refine sk ?_
   refine sq ?_
   refine bl ?_
   refine sq ?_
   refine Ok.draw (m := 10) (MD := ⟨[]⟩) (CH := ⟨[]⟩) Tryz.tok Tryz.mixed (by kernel_rfl) ?_
   obtain ⟨x1, hx1, hB1⟩ := bindS hB1
   obtain ⟨x2, hx2, hB1⟩ := bindS hB1
   obtain ⟨x3, hx3, hB1⟩ := bindS hB1
   refine ⟨_, rfl, _, rfl, _, ⟨_, idx_nat hx1, _, idx_row hx1, rfl⟩, _, ⟨_, rfl, rfl⟩, _, rfl, _, rfl, _, ⟨_, idx_nat hx2, _, idx_row hx2, rfl⟩, _, ⟨_, rfl, rfl⟩, _, ⟨_, .of_pure (w_ref04_Same hx3) (LeL.refl _), rfl⟩, _, rfl, Q0, ?_⟩
   refine wE [(0, .s (mA p_a)), (1, .s (mA p_b)), (5, vi s1), (6, vb x3)] Q4 ?_
   refine sg ?_
   refine wE [(0, .s (mA p_a)), (1, .s (mA p_b)), (5, vi s1), (28, vb (!x3))] Q4 ?_
   refine cn 28 (!x3) rfl hB1 (fun hb hB1 => ?_) fun hb hB1 => ?_
   ·refine sg ?_
    refine wE [(4, vb false)] Q1 ?_
    refine rt ?_
    have hB1 := out_ret hB1 hy1
    cases hB1
    exact Fz.v
   refine sk ?_
   refine rg ?_
   obtain ⟨hc1, hB1⟩ := chk_some hB1
   refine (Or.inl ⟨hc1, ?_⟩)
   exact ⟨_, sj hB1, wt Q3 Q0 rfl⟩
  refine xt ?_
  have hB1 := out_ret hB1 hy1
  exact ⟨_, hB1, wt Q0 Q0 rfl⟩
 intro v1 h
 unfold ref26_Disks_J1 at h
 refine sg ?_
 refine wE [(4, vb true)] Q1 ?_
 refine rt ?_
 cases h
 exact Fz.v
theorem w_law26_ChainMakes [Off] {p_id} {p_l} {p_down} {p_data} {p_ver} {r} (h : law26_ChainMakes p_id p_l p_down p_data p_ver = some r) : Pure Tryz.prog 3 [(vi p_id), (.s (mI p_l)), (.a (List.map vb p_down)), (.s (mU p_data)), (vi p_ver)] (vb r) := by
 refine po Tryz.tok 124 Tryz.func3 (by kernel_rfl) rfl rfl rfl ?_
 unfold law26_ChainMakes at h
 refine wE [(0, vi p_id), (1, .s (mI p_l)), (2, .a (List.map vb p_down)), (3, .s (mU p_data)), (4, vi p_ver)] Q5 ?_
 refine sg ?_
 refine wT [(0, vi p_id), (1, .s (mI p_l)), (3, .s (mU p_data)), (4, vi p_ver), (7, .b 7 0)] [(7, .box (List.map vb p_down))] Q5 ⟨⟨_, rfl, .arr1 (fun _ _ => rfl)⟩, Q0⟩ rfl ?_
 refine sg ?_
 obtain ⟨x1, hx1, h⟩ := bindS h
 refine CallOk.call (w_law26_head hx1) (LeL.refl _) ?_
 refine wT [(0, vi p_id), (1, .s (mI p_l)), (3, .s (mU p_data)), (4, vi p_ver), (7, .b 7 0), (11, vb x1)] [(7, .box (List.map vb p_down))] Q6 J1 rfl ?_
 refine sq ?_
 obtain ⟨v1, hv1, h⟩ := bindS h
 refine Ok.seqw ⟨Cat.tab [(0, vi p_id), (1, .s (mI p_l)), (3, .s (mU p_data)), (4, vi p_ver), (7, .b 7 0), (11, vb x1), (35, vb v1)], [(7, .box (List.map vb p_down))]⟩ ?_ ?_
 ·refine rg ?_
  refine ⟨_, List.length_map _, fun _ => ?_⟩
  obtain ⟨c1, hg1, hv1⟩ := bindS hv1
  refine Br.itf hg1 (fun hb hg1 => ?_) fun hb hg1 => ?_
  ·cases hg1
   cases hv1
   exact wt Q7 J1 rfl
  refine ⟨_, List.length_map _, fun _ => ?_⟩
  cases hg1
  cases hv1
  exact wt Q7 J1 rfl
 refine cn 35 (v1) rfl h (fun hb h => ?_) fun hb h => ?_
 ·refine sg ?_
  refine wE [(10, vb x1)] Q1 ?_
  refine rt ?_
  cases h
  exact Fz.v
 refine sk ?_
 refine sg ?_
 refine wT [(0, vi p_id), (1, .s (mI p_l)), (3, .s (mU p_data)), (4, vi p_ver), (7, .b 7 0), (11, vb x1), (12, .v (.slice none 0 0))] [(7, .box (List.map vb p_down))] Q7 J1 rfl ?_
 obtain ⟨v2, hv2, h⟩ := bindS h
 refine Ok.seqw ⟨Cat.tab [(0, vi p_id), (1, .s (mI p_l)), (3, .s (mU p_data)), (4, vi p_ver), (11, vb x1), (12, .o 47)], [(47, .own 29 3 (mA v2))]⟩ ?_ ?_
 ·refine sg ?_
  refine wT [(0, vi p_id), (1, .s (mI p_l)), (3, .s (mU p_data)), (4, vi p_ver), (7, .b 7 0), (11, vb x1), (12, .v (.slice none 0 0)), (13, vi (0))] [(7, .box (List.map vb p_down))] Q8 J1 rfl ?_
  refine bl ?_
  refine Ok.loop (fun (s1 : Int × (List api_Disk)) => ⟨Cat.tab [(0, vi p_id), (1, .s (mI p_l)), (3, .s (mU p_data)), (4, vi p_ver), (7, .b 7 0), (11, vb x1), (12, .o 47), (13, vi s1.1)], [(7, .box (List.map vb p_down)), (47, .own 29 3 (mA s1.2))]⟩) (law26_ChainMakes_B1 p_down) (s0 := (0, [])) hv2 ((Wk.own0 (t := 12) (id := 47) (E := 29) (K := 3) rfl rfl).trans (wt Q8 ⟨⟨_, rfl, .arr1 (fun _ _ => rfl)⟩, ⟨_, rfl, .refl _⟩, Q0⟩ rfl)) ?_
  intro s1 y1 hB1 hy1
  unfold law26_ChainMakes_B1 at hB1
  refine sq ?_
  refine sg ?_
  refine wT [(0, vi p_id), (1, .s (mI p_l)), (3, .s (mU p_data)), (4, vi p_ver), (7, .b 7 0), (11, vb x1), (12, .o 47), (13, vi s1.1), (38, vb (decide (s1.1 < 6)))] [(7, .box (List.map vb p_down)), (47, .own 29 3 (mA s1.2))] ⟨lr, Q8⟩ J2 rfl ?_
  refine cn 38 (decide (s1.1 < 6)) rfl hB1 (fun hb hB1 => ?_) fun hb hB1 => ?_
  ·refine sk ?_
   refine sq ?_
   refine bl ?_
   refine rg ?_
   obtain ⟨x2, hx2, hB1⟩ := bindS hB1
   obtain ⟨hc1, hB1⟩ := chk_some hB1
   obtain ⟨hc2, hB1⟩ := chk_some hB1
   refine ⟨_, idx_nat hx2, arr_lt hx2 hc1, bif_of (arr_ble hx2) ⟨_, arr_get hx2, Or.inl ⟨rowsLen_map (f := c_api_Disk) (n := 3) (fun _ => rfl) ([(⟨[], [], x2⟩ : api_Disk)]), app_b2 (f := c_api_Disk) (l := s1.2) (l' := [(⟨[], [], x2⟩ : api_Disk)]) hc2, _, (List.map_append (f := c_api_Disk) (l₁ := s1.2) (l₂ := [(⟨[], [], x2⟩ : api_Disk)])).symm, ?_⟩⟩⟩
   refine wT [(0, vi p_id), (1, .s (mI p_l)), (3, .s (mU p_data)), (4, vi p_ver), (7, .b 7 0), (11, vb x1), (12, .o 47), (13, vi s1.1)] [(7, .box (List.map vb p_down)), (47, .own 29 3 (mA (s1.2 ++ [(⟨[], [], x2⟩ : api_Disk)])))] Q8 ⟨⟨_, rfl, .arr1 (fun _ _ => rfl)⟩, J1⟩ rfl ?_
   refine rg ?_
   obtain ⟨hc3, hB1⟩ := chk_some hB1
   refine (Or.inl ⟨hc3, ?_⟩)
   exact ⟨_, sj hB1, wt Q8 J2 rfl⟩
  refine xt ?_
  have hB1 := out_ret hB1 hy1
  cases hB1
  exact wt Q6 J1 rfl
 refine sg ?_
 obtain ⟨x3, hx3, h⟩ := bindS h
 refine CallOk.freeze (id := 47) rfl (CallOk.call (w_chain_Make hx3) (LeL.refl _) ?_)
 refine ⟨_, rfl, ?_⟩
 refine wT [(0, vi p_id), (1, .s (mI p_l)), (3, .s (mU p_data)), (4, vi p_ver), (11, vb x1), (12, .s (mA v2)), (14, .b 14 0), (15, .s (mA x3.2.1)), (16, vi x3.2.2)] [(14, .box [vi x3.1.Id, vi x3.1.Ver, .s (mI x3.1.Servers)])] ⟨lr, Q8⟩ J1 rfl ?_
 refine sg ?_
 obtain ⟨x4, hx4, h⟩ := bindS h
 refine CallOk.call (w_ref26_Make hx4) (LeL.refl _) ?_
 refine ⟨_, rfl, ?_⟩
 refine wT [(0, vi p_id), (1, .s (mI p_l)), (3, .s (mU p_data)), (4, vi p_ver), (11, vb x1), (12, .s (mA v2)), (14, .b 14 0), (15, .s (mA x3.2.1)), (16, vi x3.2.2), (17, .b 17 0), (18, .s (mA x4.2.1)), (19, vi x4.2.2)] [(14, .box [vi x3.1.Id, vi x3.1.Ver, .s (mI x3.1.Servers)]), (17, .box [vi x4.1.Id, vi x4.1.Ver, .s (mI x4.1.Servers)])] ⟨lr, lr, lr, lr, Q8⟩ J2 rfl ?_
 refine sg ?_
 obtain ⟨x5, hx5, h⟩ := bindS h
 refine ⟨_, rfl, _, rfl, ?_⟩
 refine CallOk.call (w_ref26_Same hx5) (LeL.refl _) ?_
 refine wT [(0, vi p_id), (1, .s (mI p_l)), (3, .s (mU p_data)), (4, vi p_ver), (11, vb x1), (12, .s (mA v2)), (14, .b 14 0), (15, .s (mA x3.2.1)), (16, vi x3.2.2), (18, .s (mA x4.2.1)), (19, vi x4.2.2), (20, vb x5)] [(14, .box [vi x3.1.Id, vi x3.1.Ver, .s (mI x3.1.Servers)])] ⟨lr, lr, lr, lr, Q8⟩ J1 rfl ?_
 refine sg ?_
 obtain ⟨x6, hx6, h⟩ := bindS h
 refine CallOk.call (w_ref26_Disks hx6) (LeL.refl _) ?_
 refine wT [(0, vi p_id), (1, .s (mI p_l)), (3, .s (mU p_data)), (4, vi p_ver), (11, vb x1), (12, .s (mA v2)), (14, .b 14 0), (15, .s (mA x3.2.1)), (16, vi x3.2.2), (19, vi x4.2.2), (20, vb x5), (21, vb x6)] [(14, .box [vi x3.1.Id, vi x3.1.Ver, .s (mI x3.1.Servers)])] ⟨lr, lr, lr, lr, Q8⟩ J1 rfl ?_
 refine sg ?_
 refine ⟨_, rfl, ?_⟩
 refine wT [(1, .s (mI p_l)), (3, .s (mU p_data)), (11, vb x1), (12, .s (mA v2)), (14, .b 14 0), (15, .s (mA x3.2.1)), (16, vi x3.2.2), (19, vi x4.2.2), (20, vb x5), (21, vb x6), (22, .b 22 0)] [(14, .box [vi x3.1.Id, vi x3.1.Ver, .s (mI x3.1.Servers)]), (22, .box [vi p_id, vi p_ver, .s (mI p_l)])] ⟨lr, lr, lr, Q8⟩ J2 rfl ?_
 refine sq ?_
 obtain ⟨v3, hv3, h⟩ := bindS h
 refine Ok.seqw ⟨Cat.tab [(1, .s (mI p_l)), (3, .s (mU p_data)), (11, vb x1), (14, .b 14 0), (15, .s (mA x3.2.1)), (16, vi x3.2.2), (95, vb v3)], [(14, .box [vi x3.1.Id, vi x3.1.Ver, .s (mI x3.1.Servers)])]⟩ ?_ ?_
 ·refine Ok.draw (m := 20) (MD := ⟨[]⟩) (CH := ⟨[]⟩) Tryz.tok Tryz.mixed (by kernel_rfl) ?_
  refine ⟨_, rfl, _, rfl, _, rfl, ?_⟩
  obtain ⟨c2, hg2, hv3⟩ := bindS hv3
  refine Br.itf hg2 (fun hb hg2 => ?_) fun hb hg2 => ?_
  ·cases hg2
   refine ⟨_, rfl, ?_⟩
   refine ⟨_, rfl, ?_⟩
   obtain ⟨c3, hg3, hv3⟩ := bindS hv3
   replace hg3 := iteT hg3
   cases hg3
   refine ⟨_, rfl, ?_⟩
   refine ⟨_, rfl, ?_⟩
   obtain ⟨c4, hg4, hv3⟩ := bindS hv3
   replace hg4 := iteT hg4
   cases hg4
   refine ⟨_, rfl, ?_⟩
   refine ⟨Q0, ?_⟩
   cases hv3
   exact wt Q7 J1 rfl
  refine ⟨_, rfl, _, rfl, ?_⟩
  cases hg2
  refine ⟨_, rfl, ?_⟩
  refine ⟨_, rfl, ?_⟩
  obtain ⟨c3, hg5, hv3⟩ := bindS hv3
  refine Br.itf hg5 (fun hb hg5 => ?_) fun hb hg5 => ?_
  ·cases hg5
   refine ⟨_, rfl, ?_⟩
   refine ⟨_, rfl, ?_⟩
   obtain ⟨c4, hg6, hv3⟩ := bindS hv3
   replace hg6 := iteT hg6
   cases hg6
   refine ⟨_, rfl, ?_⟩
   refine ⟨Q0, ?_⟩
   cases hv3
   exact wt Q7 J1 rfl
  refine ⟨_, rfl, _, rfl, _, rfl, ?_⟩
  cases hg5
  refine ⟨_, rfl, ?_⟩
  refine ⟨_, rfl, ?_⟩
  obtain ⟨c4, hg7, hv3⟩ := bindS hv3
  refine Br.itf hg7 (fun hb hg7 => ?_) fun hb hg7 => ?_
  ·cases hg7
   refine ⟨_, rfl, ?_⟩
   refine ⟨Q0, ?_⟩
   cases hv3
   exact wt Q7 J1 rfl
  obtain ⟨x7, hx7, hg7⟩ := bindS hg7
  obtain ⟨x8, hx8, hg7⟩ := bindS hg7
  refine ⟨_, ⟨_, rfl, rfl⟩, _, rfl, _, ⟨_, .of_pure (w_chain_Right hx7) (LeL.refl _), rfl⟩, _, ⟨_, rfl, rfl⟩, _, rfl, _, ⟨_, .of_pure (w_ref26_Right hx8) (LeL.refl _), rfl⟩, _, rfl, ?_⟩
  cases hg7
  refine ⟨_, rfl, ?_⟩
  refine ⟨Q0, ?_⟩
  cases hv3
  exact wt Q7 J1 rfl
 refine cn 95 (v3) rfl h (fun hb h => ?_) fun hb h => ?_
 ·refine sg ?_
  refine wE [(10, vb false)] Q1 ?_
  refine rt ?_
  cases h
  exact Fz.v
 refine sk ?_
 refine sq ?_
 refine sg ?_
 refine wT [(1, .s (mI p_l)), (3, .s (mU p_data)), (11, vb x1), (14, .b 14 0), (15, .s (mA x3.2.1)), (97, vb (x3.2.2 != 0))] [(14, .box [vi x3.1.Id, vi x3.1.Ver, .s (mI x3.1.Servers)])] Q6 J1 rfl ?_
 refine cn 97 (x3.2.2 != 0) rfl h (fun hb h => ?_) fun hb h => ?_
 ·refine sg ?_
  refine wE [(10, vb x1)] Q1 ?_
  refine rt ?_
  cases h
  exact Fz.v
 refine sk ?_
 refine sg ?_
 obtain ⟨x9, hx9, h⟩ := bindS h
 refine ⟨_, rfl, ?_⟩
 refine CallOk.call (w_chain_Read hx9) (LeL.refl _) ?_
 refine wT [(1, .s (mI p_l)), (3, .s (mU p_data)), (11, vb x1), (14, .b 14 0), (15, .s (mA x3.2.1)), (23, .s (mU x9.1)), (24, vi x9.2)] [(14, .box [vi x3.1.Id, vi x3.1.Ver, .s (mI x3.1.Servers)])] Q7 J1 rfl ?_
 refine sg ?_
 obtain ⟨x10, hx10, h⟩ := bindS h
 refine CallOk.call (w_ref04_Bytes hx10) (LeL.refl _) ?_
 refine wT [(1, .s (mI p_l)), (11, vb x1), (14, .b 14 0), (15, .s (mA x3.2.1)), (24, vi x9.2), (25, vb x10)] [(14, .box [vi x3.1.Id, vi x3.1.Ver, .s (mI x3.1.Servers)])] Q6 J1 rfl ?_
 refine sg ?_
 obtain ⟨x11, hx11, h⟩ := bindS h
 refine ⟨_, rfl, ?_⟩
 refine CallOk.call (w_chain_Intact hx11) (LeL.refl _) ?_
 obtain ⟨x12, hx12, h⟩ := bindS h
 refine CallOk.call (w_ref26_Ints hx12) (LeL.refl _) ?_
 refine wE [(11, vb x1), (24, vi x9.2), (25, vb x10), (26, vb x12)] Q4 ?_
 obtain ⟨v4, hv4, h⟩ := bindS h
 refine Ok.seqw ⟨Cat.tab [(10, vb v4)], []⟩ ?_ ?_
 ·refine rg ?_
  obtain ⟨c5, hg8, hv4⟩ := bindS hv4
  refine Br.ite hg8 (fun hb hg8 => ?_) fun hb hg8 => ?_
  ·cases hg8
   obtain ⟨c6, hg9, hv4⟩ := bindS hv4
   refine Br.ite hg9 (fun hb hg9 => ?_) fun hb hg9 => ?_
   ·cases hg9
    obtain ⟨c7, hg10, hv4⟩ := bindS hv4
    refine Br.ite hg10 (fun hb hg10 => ?_) fun hb hg10 => ?_
    ·cases hg10
     cases hv4
     exact wt Q1 Q0 rfl
    cases hg10
    cases hv4
    exact wt Q1 Q0 rfl
   cases hg9
   obtain ⟨c7, hg11, hv4⟩ := bindS hv4
   replace hg11 := iteF hg11
   cases hg11
   cases hv4
   exact wt Q1 Q0 rfl
  cases hg8
  obtain ⟨c6, hg12, hv4⟩ := bindS hv4
  replace hg12 := iteF hg12
  cases hg12
  obtain ⟨c7, hg13, hv4⟩ := bindS hv4
  replace hg13 := iteF hg13
  cases hg13
  cases hv4
  exact wt Q1 Q0 rfl
 refine rt ?_
 cases h
 exact Fz.v
end Go.Proofs
