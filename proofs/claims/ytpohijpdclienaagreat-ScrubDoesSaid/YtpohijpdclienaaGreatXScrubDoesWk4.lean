/- The walks of this seat beside the plain programs, part 4. No condition. -/
import Derived.Test.YtpohijpdclienaaGreatXScrubDoesEn
import Derived.Test.YtpohijpdclienaaGreatXScrubDoesWk0
import Derived.Test.YtpohijpdclienaaGreatXScrubDoesWk1
import Derived.Test.YtpohijpdclienaaGreatXScrubDoesWk2
import Derived.Test.YtpohijpdclienaaGreatXScrubDoesWk3
namespace Go.Proofs
set_option linter.all false
open Go Go.Cat
variable [M : Mono]
set_option maxRecDepth 100000
theorem w_ref27_Copy {p_disks} {p_j} {r} (h : ref27_Copy p_disks p_j = some r) : Pure Tryz.prog 25 [(.s (mB p_disks)), (.a [(vi p_j.Id), (vi p_j.Ver), (vi p_j.From), (vi p_j.To), (vi p_j.Have), (vi p_j.Left)])] (.t [(.s (mB r.1)), (vi r.2)]) := by
 refine po Tryz.tok 72 Tryz.func25 (by kernel_rfl) rfl rfl rfl ?_
 unfold ref27_Copy at h
 refine wE [(0, .s (mB p_disks)), (1, .a [vi p_j.Id, vi p_j.Ver, vi p_j.From, vi p_j.To, vi p_j.Have, vi p_j.Left])] Q2 ?_
 refine sg ?_
 refine wT [(0, .s (mB p_disks)), (3, .b 3 0)] [(3, .box [vi p_j.Id, vi p_j.Ver, vi p_j.From, vi p_j.To, vi p_j.Have, vi p_j.Left])] Q2 J1 rfl ?_
 refine sq ?_
 obtain ⟨v1, hv1, h⟩ := bindS h
 refine Ok.seqw ⟨Cat.tab [(0, .s (mB p_disks)), (3, .b 3 0), (21, vb v1)], [(3, .box [vi p_j.Id, vi p_j.Ver, vi p_j.From, vi p_j.To, vi p_j.Have, vi p_j.Left])]⟩ ?_ ?_
 ·refine rg ?_
  obtain ⟨x1, hx1, hv1⟩ := bindS hv1
  refine ⟨_, rfl, ?_⟩
  refine CallOk.call (w_ref27_there hx1) (LeL.refl _) ?_
  obtain ⟨c1, hg1, hv1⟩ := bindS hv1
  refine Br.itf hg1 (fun hb hg1 => ?_) fun hb hg1 => ?_
  ·cases hg1
   cases hv1
   exact wt Q3 J1 rfl
  obtain ⟨x2, hx2, hg1⟩ := bindS hg1
  refine ⟨_, rfl, ?_⟩
  refine CallOk.call (w_ref27_there hx2) (LeL.refl _) ?_
  cases hg1
  cases hv1
  exact wt Q3 J1 rfl
 refine cn 21 (v1) rfl h (fun hb h => ?_) fun hb h => ?_
 ·refine sg ?_
  refine wE [(4, .s (mB p_disks)), (5, vi (1))] Q2 ?_
  refine rt ?_
  cases h
  exact (Fz.t (.cons Fz.s (.cons Fz.v .nil)))
 refine sk ?_
 refine sq ?_
 refine Ok.draw2 (m := 12) (late := [10]) (MD := ⟨[]⟩) (CH := ⟨[]⟩) Tryz.tok Tryz.mixed (by kernel_rfl) ?_
 obtain ⟨x3, hx3, h⟩ := bindS h
 obtain ⟨x4, hx4, h⟩ := bindS h
 refine ⟨_, rfl, _, rfl, _, ⟨_, rfl, rfl⟩, _, ⟨_, idx_nat hx3, _, idx_row hx3, rfl⟩, _, ⟨_, rfl, rfl⟩, _, rfl, _, ⟨_, rfl, rfl⟩, _, ⟨_, .of_pure (w_ref25_Get hx4) (LeL.refl _), rfl⟩, _, rfl, _, rfl, _, rfl, Q0, ?_⟩
 refine ⟨_, rfl, ⟨⟨_, rfl, rfl⟩, Q0⟩, ?_⟩
 refine wT [(0, .s (mB p_disks)), (3, .b 3 0), (6, .b 6 0), (7, vi x4.2)] [(3, .box [vi p_j.Id, vi p_j.Ver, vi p_j.From, vi p_j.To, vi p_j.Have, vi p_j.Left]), (6, .box [vi x4.1.Id, vi x4.1.Ver, .s (mU x4.1.Data), .s (mA x4.1.Sums)])] Q4 J2 rfl ?_
 refine sq ?_
 refine sg ?_
 refine wT [(0, .s (mB p_disks)), (3, .b 3 0), (6, .b 6 0), (7, vi x4.2), (35, vb (x4.2 != 0))] [(3, .box [vi p_j.Id, vi p_j.Ver, vi p_j.From, vi p_j.To, vi p_j.Have, vi p_j.Left]), (6, .box [vi x4.1.Id, vi x4.1.Ver, .s (mU x4.1.Data), .s (mA x4.1.Sums)])] Q5 J2 rfl ?_
 refine cn 35 (x4.2 != 0) rfl h (fun hb h => ?_) fun hb h => ?_
 ·refine sg ?_
  refine wE [(4, .s (mB p_disks)), (5, vi x4.2)] Q2 ?_
  refine rt ?_
  cases h
  exact (Fz.t (.cons Fz.s (.cons Fz.v .nil)))
 refine sk ?_
 refine sq ?_
 refine sg ?_
 refine ⟨_, rfl, _, rfl, ?_⟩
 refine wT [(0, .s (mB p_disks)), (3, .b 3 0), (6, .b 6 0), (42, vb (x4.1.Ver != p_j.Ver))] [(3, .box [vi p_j.Id, vi p_j.Ver, vi p_j.From, vi p_j.To, vi p_j.Have, vi p_j.Left]), (6, .box [vi x4.1.Id, vi x4.1.Ver, .s (mU x4.1.Data), .s (mA x4.1.Sums)])] Q4 J2 rfl ?_
 refine cn 42 (x4.1.Ver != p_j.Ver) rfl h (fun hb h => ?_) fun hb h => ?_
 ·refine sg ?_
  refine wE [(4, .s (mB p_disks)), (5, vi (250))] Q2 ?_
  refine rt ?_
  cases h
  exact (Fz.t (.cons Fz.s (.cons Fz.v .nil)))
 refine sk ?_
 refine sq ?_
 refine Ok.draw2 (m := 11) (late := [9]) (MD := ⟨[]⟩) (CH := ⟨[]⟩) Tryz.tok Tryz.mixed (by kernel_rfl) ?_
 obtain ⟨x5, hx5, h⟩ := bindS h
 obtain ⟨x6, hx6, h⟩ := bindS h
 refine ⟨_, rfl, _, rfl, _, ⟨_, rfl, rfl⟩, _, ⟨_, idx_nat hx5, _, idx_row hx5, rfl⟩, _, ⟨_, rfl, rfl⟩, _, ⟨_, rfl, rfl⟩, _, ⟨_, .of_pure (w_ref25_Put hx6) (LeL.refl _), rfl⟩, _, rfl, _, rfl, _, rfl, Q0, ?_⟩
 refine ⟨_, rfl, ⟨⟨_, rfl, rfl⟩, Q0⟩, ?_⟩
 refine wT [(0, .s (mB p_disks)), (3, .b 3 0), (8, .b 8 0), (9, vi x6.2)] [(3, .box [vi p_j.Id, vi p_j.Ver, vi p_j.From, vi p_j.To, vi p_j.Have, vi p_j.Left]), (8, .box [.s (mI x6.1.Synced), .s (mI x6.1.Loose), vb x6.1.Down])] Q4 J2 rfl ?_
 refine sq ?_
 refine sg ?_
 refine wT [(0, .s (mB p_disks)), (3, .b 3 0), (8, .b 8 0), (9, vi x6.2), (55, vb (x6.2 != 0))] [(3, .box [vi p_j.Id, vi p_j.Ver, vi p_j.From, vi p_j.To, vi p_j.Have, vi p_j.Left]), (8, .box [.s (mI x6.1.Synced), .s (mI x6.1.Loose), vb x6.1.Down])] Q5 J2 rfl ?_
 refine cn 55 (x6.2 != 0) rfl h (fun hb h => ?_) fun hb h => ?_
 ·refine sg ?_
  refine wE [(4, .s (mB p_disks)), (5, vi x6.2)] Q2 ?_
  refine rt ?_
  cases h
  exact (Fz.t (.cons Fz.s (.cons Fz.v .nil)))
 refine sk ?_
 refine sg ?_
 obtain ⟨x7, hx7, h⟩ := bindS h
 refine ⟨_, rfl, ?_⟩
 refine CallOk.call (w_ref04_Sync hx7) (LeL.refl _) ?_
 refine ⟨_, rfl, ?_⟩
 refine wT [(0, .s (mB p_disks)), (3, .b 3 0), (8, .b 8 0), (9, vi x7.2)] [(3, .box [vi p_j.Id, vi p_j.Ver, vi p_j.From, vi p_j.To, vi p_j.Have, vi p_j.Left]), (8, .box [.s (mI x7.1.Synced), .s (mI x7.1.Loose), vb x7.1.Down])] Q4 J2 rfl ?_
 refine sq ?_
 refine sg ?_
 refine wT [(0, .s (mB p_disks)), (3, .b 3 0), (8, .b 8 0), (9, vi x7.2), (64, vb (x7.2 != 0))] [(3, .box [vi p_j.Id, vi p_j.Ver, vi p_j.From, vi p_j.To, vi p_j.Have, vi p_j.Left]), (8, .box [.s (mI x7.1.Synced), .s (mI x7.1.Loose), vb x7.1.Down])] Q5 J2 rfl ?_
 refine cn 64 (x7.2 != 0) rfl h (fun hb h => ?_) fun hb h => ?_
 ·refine sg ?_
  refine wE [(4, .s (mB p_disks)), (5, vi x7.2)] Q2 ?_
  refine rt ?_
  cases h
  exact (Fz.t (.cons Fz.s (.cons Fz.v .nil)))
 refine sk ?_
 refine sg ?_
 obtain ⟨x8, hx8, h⟩ := bindS h
 refine ⟨_, rfl, _, rfl, ?_⟩
 refine CallOk.call (w_ref27_with hx8) (LeL.refl _) ?_
 refine wE [(4, .s (mB x8)), (5, vi (0))] Q2 ?_
 refine rt ?_
 cases h
 exact (Fz.t (.cons Fz.s (.cons Fz.v .nil)))
theorem w_ref25_Lose {p_d} {p_id} {r} (h : ref25_Lose p_d p_id = some r) : Pure Tryz.prog 66 [(.a [(.s (mI p_d.Synced)), (.s (mI p_d.Loose)), (vb p_d.Down)]), (vi p_id)] (.t [(.a [(.s (mI r.1.Synced)), (.s (mI r.1.Loose)), (vb r.1.Down)]), (vi r.2)]) := by
 refine po Tryz.tok 34 Tryz.func66 (by kernel_rfl) rfl rfl rfl ?_
 unfold ref25_Lose at h
 refine wE [(0, .a [.s (mI p_d.Synced), .s (mI p_d.Loose), vb p_d.Down]), (1, vi p_id)] Q2 ?_
 refine sg ?_
 refine wT [(1, vi p_id), (2, .b 2 0), (4, .b 4 0)] [(2, .box [.s (mI p_d.Synced), .s (mI p_d.Loose), vb p_d.Down]), (4, .box [.v (.slice none 0 0), .v (.slice none 0 0), vb false])] Q3 J2 rfl ?_
 refine sq ?_
 obtain ⟨v1, hv1, h⟩ := bindS h
 refine Ok.seqw ⟨Cat.tab [(1, vi p_id), (2, .b 2 0), (4, .b 4 0), (13, vb v1)], [(2, .box [.s (mI p_d.Synced), .s (mI p_d.Loose), vb p_d.Down]), (4, .box [.v (.slice none 0 0), .v (.slice none 0 0), vb false])]⟩ ?_ ?_
 ·refine rg ?_
  obtain ⟨c1, hg1, hv1⟩ := bindS hv1
  refine Br.itf hg1 (fun hb hg1 => ?_) fun hb hg1 => ?_
  ·cases hg1
   cases hv1
   exact wt Q4 J2 rfl
  cases hg1
  cases hv1
  exact wt Q4 J2 rfl
 refine cn 13 (v1) rfl h (fun hb h => ?_) fun hb h => ?_
 ·refine sg ?_
  refine ⟨_, rfl, _, rfl, ?_⟩
  refine wT [(4, .b 4 0), (5, vi (1))] [(4, .box [.s (mI p_d.Synced), .s (mI p_d.Loose), vb p_d.Down])] Q2 J1 rfl ?_
  refine rt ?_
  cases h
  exact ⟨_, rfl, (Fz.t (.cons (Fz.imm rfl) (.cons Fz.v .nil)))⟩
 refine sk ?_
 refine sg ?_
 obtain ⟨x1, hx1, h⟩ := bindS h
 refine ⟨_, rfl, ?_⟩
 refine CallOk.call (w_ref04_Read hx1) (LeL.refl _) ?_
 refine wT [(1, vi p_id), (2, .b 2 0), (4, .b 4 0), (6, .s (mU x1.1)), (7, vi x1.2)] [(2, .box [.s (mI p_d.Synced), .s (mI p_d.Loose), vb p_d.Down]), (4, .box [.v (.slice none 0 0), .v (.slice none 0 0), vb false])] Q5 J2 rfl ?_
 refine sq ?_
 refine sg ?_
 refine wT [(1, vi p_id), (2, .b 2 0), (4, .b 4 0), (6, .s (mU x1.1)), (7, vi x1.2), (22, vb (x1.2 != 0))] [(2, .box [.s (mI p_d.Synced), .s (mI p_d.Loose), vb p_d.Down]), (4, .box [.v (.slice none 0 0), .v (.slice none 0 0), vb false])] Q6 J2 rfl ?_
 refine cn 22 (x1.2 != 0) rfl h (fun hb h => ?_) fun hb h => ?_
 ·refine sg ?_
  refine ⟨_, rfl, _, rfl, ?_⟩
  refine wT [(4, .b 4 0), (5, vi x1.2)] [(4, .box [.s (mI p_d.Synced), .s (mI p_d.Loose), vb p_d.Down])] Q2 J1 rfl ?_
  refine rt ?_
  cases h
  exact ⟨_, rfl, (Fz.t (.cons (Fz.imm rfl) (.cons Fz.v .nil)))⟩
 refine sk ?_
 refine sq ?_
 refine sg ?_
 refine ⟨_, List.length_map _, fun _ => ?_⟩
 refine wT [(1, vi p_id), (2, .b 2 0), (4, .b 4 0), (27, vb ((x1.1.length : Int) == 0))] [(2, .box [.s (mI p_d.Synced), .s (mI p_d.Loose), vb p_d.Down]), (4, .box [.v (.slice none 0 0), .v (.slice none 0 0), vb false])] Q4 J2 rfl ?_
 refine cn 27 ((x1.1.length : Int) == 0) rfl h (fun hb h => ?_) fun hb h => ?_
 ·refine sg ?_
  refine ⟨_, rfl, _, rfl, ?_⟩
  refine wT [(4, .b 4 0), (5, vi (41))] [(4, .box [.s (mI p_d.Synced), .s (mI p_d.Loose), vb p_d.Down])] Q2 J1 rfl ?_
  refine rt ?_
  cases h
  exact ⟨_, rfl, (Fz.t (.cons (Fz.imm rfl) (.cons Fz.v .nil)))⟩
 refine sk ?_
 refine sg ?_
 obtain ⟨x2, hx2, h⟩ := bindS h
 refine ⟨_, rfl, ?_⟩
 refine CallOk.call (w_ref04_Write hx2) (.cons (lr) (.cons (lr) (.cons (Le.nil) (.nil)))) ?_
 refine ⟨_, rfl, ?_⟩
 refine wT [(4, .b 4 0), (5, vi x2.2)] [(4, .box [.s (mI x2.1.Synced), .s (mI x2.1.Loose), vb x2.1.Down])] Q2 J1 rfl ?_
 refine rt ?_
 cases h
 exact ⟨_, rfl, (Fz.t (.cons (Fz.imm rfl) (.cons Fz.v .nil)))⟩
theorem w_ref27_Clean {p_disks} {p_x} {r} (h : ref27_Clean p_disks p_x = some r) : Pure Tryz.prog 27 [(.s (mB p_disks)), (.a [(vi p_x.Id), (vi p_x.Server), (vi p_x.What)])] (.t [(.s (mB r.1)), (vi r.2)]) := by
 refine po Tryz.tok 43 Tryz.func27 (by kernel_rfl) rfl rfl rfl ?_
 unfold ref27_Clean at h
 refine wE [(0, .s (mB p_disks)), (1, .a [vi p_x.Id, vi p_x.Server, vi p_x.What])] Q2 ?_
 refine sg ?_
 refine wT [(0, .s (mB p_disks)), (3, .b 3 0)] [(3, .box [vi p_x.Id, vi p_x.Server, vi p_x.What])] Q2 J1 rfl ?_
 refine sq ?_
 refine sg ?_
 obtain ⟨x1, hx1, h⟩ := bindS h
 refine ⟨_, rfl, ?_⟩
 refine CallOk.call (w_ref27_there hx1) (LeL.refl _) ?_
 refine wT [(0, .s (mB p_disks)), (3, .b 3 0), (12, vb (!x1))] [(3, .box [vi p_x.Id, vi p_x.Server, vi p_x.What])] Q3 J1 rfl ?_
 refine cn 12 (!x1) rfl h (fun hb h => ?_) fun hb h => ?_
 ·refine sg ?_
  refine wE [(4, .s (mB p_disks)), (5, vi (1))] Q2 ?_
  refine rt ?_
  cases h
  exact (Fz.t (.cons Fz.s (.cons Fz.v .nil)))
 refine sk ?_
 refine sq ?_
 refine Ok.draw2 (m := 12) (late := [10]) (MD := ⟨[]⟩) (CH := ⟨[]⟩) Tryz.tok Tryz.mixed (by kernel_rfl) ?_
 obtain ⟨x2, hx2, h⟩ := bindS h
 obtain ⟨x3, hx3, h⟩ := bindS h
 refine ⟨_, rfl, _, rfl, _, ⟨_, rfl, rfl⟩, _, ⟨_, idx_nat hx2, _, idx_row hx2, rfl⟩, _, ⟨_, rfl, rfl⟩, _, rfl, _, ⟨_, rfl, rfl⟩, _, ⟨_, .of_pure (w_ref25_Lose hx3) (LeL.refl _), rfl⟩, _, rfl, _, rfl, _, rfl, Q0, ?_⟩
 refine ⟨_, rfl, ⟨⟨_, rfl, rfl⟩, Q0⟩, ?_⟩
 refine wT [(0, .s (mB p_disks)), (3, .b 3 0), (6, .b 6 0), (7, vi x3.2)] [(3, .box [vi p_x.Id, vi p_x.Server, vi p_x.What]), (6, .box [.s (mI x3.1.Synced), .s (mI x3.1.Loose), vb x3.1.Down])] Q4 J2 rfl ?_
 refine sq ?_
 refine sg ?_
 refine wT [(0, .s (mB p_disks)), (3, .b 3 0), (6, .b 6 0), (7, vi x3.2), (26, vb (x3.2 != 0))] [(3, .box [vi p_x.Id, vi p_x.Server, vi p_x.What]), (6, .box [.s (mI x3.1.Synced), .s (mI x3.1.Loose), vb x3.1.Down])] Q5 J2 rfl ?_
 refine cn 26 (x3.2 != 0) rfl h (fun hb h => ?_) fun hb h => ?_
 ·refine sg ?_
  refine wE [(4, .s (mB p_disks)), (5, vi x3.2)] Q2 ?_
  refine rt ?_
  cases h
  exact (Fz.t (.cons Fz.s (.cons Fz.v .nil)))
 refine sk ?_
 refine sg ?_
 obtain ⟨x4, hx4, h⟩ := bindS h
 refine ⟨_, rfl, ?_⟩
 refine CallOk.call (w_ref04_Sync hx4) (LeL.refl _) ?_
 refine ⟨_, rfl, ?_⟩
 refine wT [(0, .s (mB p_disks)), (3, .b 3 0), (6, .b 6 0), (7, vi x4.2)] [(3, .box [vi p_x.Id, vi p_x.Server, vi p_x.What]), (6, .box [.s (mI x4.1.Synced), .s (mI x4.1.Loose), vb x4.1.Down])] Q4 J2 rfl ?_
 refine sq ?_
 refine sg ?_
 refine wT [(0, .s (mB p_disks)), (3, .b 3 0), (6, .b 6 0), (7, vi x4.2), (35, vb (x4.2 != 0))] [(3, .box [vi p_x.Id, vi p_x.Server, vi p_x.What]), (6, .box [.s (mI x4.1.Synced), .s (mI x4.1.Loose), vb x4.1.Down])] Q5 J2 rfl ?_
 refine cn 35 (x4.2 != 0) rfl h (fun hb h => ?_) fun hb h => ?_
 ·refine sg ?_
  refine wE [(4, .s (mB p_disks)), (5, vi x4.2)] Q2 ?_
  refine rt ?_
  cases h
  exact (Fz.t (.cons Fz.s (.cons Fz.v .nil)))
 refine sk ?_
 refine sg ?_
 obtain ⟨x5, hx5, h⟩ := bindS h
 refine ⟨_, rfl, _, rfl, ?_⟩
 refine CallOk.call (w_ref27_with hx5) (LeL.refl _) ?_
 refine wE [(4, .s (mB x5)), (5, vi (0))] Q2 ?_
 refine rt ?_
 cases h
 exact (Fz.t (.cons Fz.s (.cons Fz.v .nil)))
theorem w_ref25_pages {p_a} {p_b} {r} (h : ref25_pages p_a p_b = some r) : Pure Tryz.prog 100 [(.s (mI p_a)), (.s (mI p_b))] (vb r) := by
 refine po Tryz.tok 42 Tryz.func100 (by kernel_rfl) rfl rfl rfl ?_
 unfold ref25_pages at h
 refine wE [(0, .s (mI p_a)), (1, .s (mI p_b))] Q2 ?_
 refine sg ?_
 refine wE [(0, .s (mI p_a)), (1, .s (mI p_b))] Q2 ?_
 refine sq ?_
 refine sg ?_
 refine ⟨_, List.length_map _, fun _ => ⟨_, List.length_map _, fun _ => ?_⟩⟩
 refine wE [(0, .s (mI p_a)), (1, .s (mI p_b)), (10, vb ((p_a.length : Int) != (p_b.length : Int)))] Q3 ?_
 refine cn 10 ((p_a.length : Int) != (p_b.length : Int)) rfl h (fun hb h => ?_) fun hb h => ?_
 ·refine sg ?_
  refine wE [(4, vb false)] Q1 ?_
  refine rt ?_
  cases h
  exact Fz.v
 refine sk ?_
 refine Ok.seqj (fun v1 => ⟨Cat.tab [], []⟩) (fun v1 => ref25_pages_J1 v1 = some r) ?_ ?_
 ·refine sg ?_
  refine wE [(0, .s (mI p_a)), (1, .s (mI p_b)), (5, vi (0))] Q3 ?_
  refine bl ?_
  refine Ok.loop (fun (s1 : Int) => ⟨Cat.tab [(0, .s (mI p_a)), (1, .s (mI p_b)), (5, vi s1)], []⟩) (ref25_pages_B1 p_a p_b) (s0 := 0) h (wt Q3 Q0 rfl) ?_
  intro s1 y1 hB1 hy1
  unfold ref25_pages_B1 at hB1
  refine sq ?_
  refine sg ?_
  refine ⟨_, List.length_map _, fun _ => ?_⟩
  refine wE [(0, .s (mI p_a)), (1, .s (mI p_b)), (5, vi s1), (14, vb (decide (s1 < (p_a.length : Int))))] Q4 ?_
  refine cn 14 (decide (s1 < (p_a.length : Int))) rfl hB1 (fun hb hB1 => ?_) fun hb hB1 => ?_
  ·refine sk ?_
   refine sq ?_
   refine bl ?_
   obtain ⟨v2, hv2, hB1⟩ := bindS hB1
   refine Ok.seqw ⟨Cat.tab [(0, .s (mI p_a)), (1, .s (mI p_b)), (5, vi s1), (41, vb v2)], []⟩ ?_ ?_
   ·refine Ok.draw (m := 25) (MD := ⟨[]⟩) (CH := ⟨[]⟩) Tryz.tok Tryz.mixed (by kernel_rfl) ?_
    obtain ⟨x1, hx1, hv2⟩ := bindS hv2
    obtain ⟨x2, hx2, hv2⟩ := bindS hv2
    refine ⟨_, rfl, _, rfl, _, ⟨_, idx_nat hx1, _, idx_row hx1, rfl⟩, _, rfl, _, ⟨_, rfl, rfl⟩, _, rfl, _, rfl, _, ⟨_, idx_nat hx2, _, idx_row hx2, rfl⟩, _, rfl, _, ⟨_, rfl, rfl⟩, _, rfl, _, rfl, ?_⟩
    obtain ⟨c1, hg1, hv2⟩ := bindS hv2
    refine Br.itf hg1 (fun hb hg1 => ?_) fun hb hg1 => ?_
    ·cases hg1
     refine ⟨_, rfl, ?_⟩
     refine ⟨Q0, ?_⟩
     cases hv2
     exact wt Q4 Q0 rfl
    obtain ⟨x3, hx3, hg1⟩ := bindS hg1
    obtain ⟨x4, hx4, hg1⟩ := bindS hg1
    obtain ⟨x5, hx5, hg1⟩ := bindS hg1
    refine ⟨_, rfl, _, rfl, _, ⟨_, idx_nat hx3, _, idx_row hx3, rfl⟩, _, rfl, _, ⟨_, rfl, rfl⟩, _, rfl, _, rfl, _, ⟨_, idx_nat hx4, _, idx_row hx4, rfl⟩, _, rfl, _, ⟨_, rfl, rfl⟩, _, ⟨_, .of_pure (w_ref02_Bytes hx5) (LeL.refl _), rfl⟩, _, rfl, ?_⟩
    cases hg1
    refine ⟨_, rfl, ?_⟩
    refine ⟨Q0, ?_⟩
    cases hv2
    exact wt Q4 Q0 rfl
   refine cn 41 (v2) rfl hB1 (fun hb hB1 => ?_) fun hb hB1 => ?_
   ·refine sg ?_
    refine wE [(4, vb false)] Q1 ?_
    refine rt ?_
    have hB1 := out_ret hB1 hy1
    cases hB1
    exact Fz.v
   refine sk ?_
   refine rg ?_
   obtain ⟨hc1, hB1⟩ := chk_some hB1
   refine (Or.inl ⟨hc1, ?_⟩)
   exact ⟨_, sj hB1, wt Q3 Q0 rfl⟩
  refine xt ?_
  have hB1 := out_ret hB1 hy1
  exact ⟨_, hB1, wt Q0 Q0 rfl⟩
 intro v1 h
 unfold ref25_pages_J1 at h
 refine sg ?_
 refine wE [(4, vb true)] Q1 ?_
 refine rt ?_
 cases h
 exact Fz.v
theorem w_ref25_SameDisk {p_a} {p_b} {r} (h : ref25_SameDisk p_a p_b = some r) : Pure Tryz.prog 67 [(.a [(.s (mI p_a.Synced)), (.s (mI p_a.Loose)), (vb p_a.Down)]), (.a [(.s (mI p_b.Synced)), (.s (mI p_b.Loose)), (vb p_b.Down)])] (vb r) := by
 refine po Tryz.tok 24 Tryz.func67 (by kernel_rfl) rfl rfl rfl ?_
 unfold ref25_SameDisk at h
 refine wE [(0, .a [.s (mI p_a.Synced), .s (mI p_a.Loose), vb p_a.Down]), (1, .a [.s (mI p_b.Synced), .s (mI p_b.Loose), vb p_b.Down])] Q2 ?_
 refine sg ?_
 refine wT [(2, .b 2 0), (3, .b 3 0)] [(2, .box [.s (mI p_a.Synced), .s (mI p_a.Loose), vb p_a.Down]), (3, .box [.s (mI p_b.Synced), .s (mI p_b.Loose), vb p_b.Down])] Q2 J2 rfl ?_
 obtain ⟨v1, hv1, h⟩ := bindS h
 refine Ok.seqw ⟨Cat.tab [(4, vb v1)], []⟩ ?_ ?_
 ·refine rg ?_
  obtain ⟨x1, hx1, hv1⟩ := bindS hv1
  refine ⟨_, rfl, _, rfl, ?_⟩
  refine CallOk.call (w_ref25_pages hx1) (LeL.refl _) ?_
  obtain ⟨c1, hg1, hv1⟩ := bindS hv1
  refine Br.ite hg1 (fun hb hg1 => ?_) fun hb hg1 => ?_
  ·obtain ⟨x2, hx2, hg1⟩ := bindS hg1
   refine ⟨_, rfl, _, rfl, ?_⟩
   refine CallOk.call (w_ref25_pages hx2) (LeL.refl _) ?_
   cases hg1
   obtain ⟨c2, hg2, hv1⟩ := bindS hv1
   refine Br.ite hg2 (fun hb hg2 => ?_) fun hb hg2 => ?_
   ·refine ⟨_, rfl, _, rfl, ?_⟩
    cases hg2
    cases hv1
    exact wt Q1 Q0 rfl
   cases hg2
   cases hv1
   exact wt Q1 Q0 rfl
  cases hg1
  obtain ⟨c2, hg3, hv1⟩ := bindS hv1
  replace hg3 := iteF hg3
  cases hg3
  cases hv1
  exact wt Q1 Q0 rfl
 refine rt ?_
 cases h
 exact Fz.v
theorem w_ref27_SameDisks {p_a} {p_b} {r} (h : ref27_SameDisks p_a p_b = some r) : Pure Tryz.prog 28 [(.s (mB p_a)), (.s (mB p_b))] (vb r) := by
 refine po Tryz.tok 27 Tryz.func28 (by kernel_rfl) rfl rfl rfl ?_
 unfold ref27_SameDisks at h
 refine wE [(0, .s (mB p_a)), (1, .s (mB p_b))] Q2 ?_
 refine sg ?_
 refine wE [(0, .s (mB p_a)), (1, .s (mB p_b))] Q2 ?_
 refine sq ?_
 refine sg ?_
 refine ⟨_, List.length_map _, fun _ => ⟨_, List.length_map _, fun _ => ?_⟩⟩
 refine wE [(0, .s (mB p_a)), (1, .s (mB p_b)), (10, vb ((p_a.length : Int) != (p_b.length : Int)))] Q3 ?_
 refine cn 10 ((p_a.length : Int) != (p_b.length : Int)) rfl h (fun hb h => ?_) fun hb h => ?_
 ·refine sg ?_
  refine wE [(4, vb false)] Q1 ?_
  refine rt ?_
  cases h
  exact Fz.v
 refine sk ?_
 refine Ok.seqj (fun v1 => ⟨Cat.tab [], []⟩) (fun v1 => ref27_SameDisks_J1 v1 = some r) ?_ ?_
 ·refine sg ?_
  refine wE [(0, .s (mB p_a)), (1, .s (mB p_b)), (5, vi (0))] Q3 ?_
  refine bl ?_
  refine Ok.loop (fun (s1 : Int) => ⟨Cat.tab [(0, .s (mB p_a)), (1, .s (mB p_b)), (5, vi s1)], []⟩) (ref27_SameDisks_B1 p_a p_b) (s0 := 0) h (wt Q3 Q0 rfl) ?_
  intro s1 y1 hB1 hy1
  unfold ref27_SameDisks_B1 at hB1
  refine sq ?_
  refine sg ?_
  refine ⟨_, List.length_map _, fun _ => ?_⟩
  refine wE [(0, .s (mB p_a)), (1, .s (mB p_b)), (5, vi s1), (14, vb (decide (s1 < (p_a.length : Int))))] Q4 ?_
  refine cn 14 (decide (s1 < (p_a.length : Int))) rfl hB1 (fun hb hB1 => ?_) fun hb hB1 => ?_
  ·refine sk ?_
   refine sq ?_
   refine bl ?_
   refine sq ?_
   refine Ok.draw (m := 10) (MD := ⟨[]⟩) (CH := ⟨[]⟩) Tryz.tok Tryz.mixed (by kernel_rfl) ?_
   obtain ⟨x1, hx1, hB1⟩ := bindS hB1
   obtain ⟨x2, hx2, hB1⟩ := bindS hB1
   obtain ⟨x3, hx3, hB1⟩ := bindS hB1
   refine ⟨_, rfl, _, rfl, _, ⟨_, idx_nat hx1, _, idx_row hx1, rfl⟩, _, ⟨_, rfl, rfl⟩, _, rfl, _, rfl, _, ⟨_, idx_nat hx2, _, idx_row hx2, rfl⟩, _, ⟨_, rfl, rfl⟩, _, ⟨_, .of_pure (w_ref25_SameDisk hx3) (LeL.refl _), rfl⟩, _, rfl, Q0, ?_⟩
   refine wE [(0, .s (mB p_a)), (1, .s (mB p_b)), (5, vi s1), (26, vb (!x3))] Q4 ?_
   refine cn 26 (!x3) rfl hB1 (fun hb hB1 => ?_) fun hb hB1 => ?_
   ·refine sg ?_
    refine wE [(4, vb false)] Q1 ?_
    refine rt ?_
    have hB1 := out_ret hB1 hy1
    cases hB1
    exact Fz.v
   refine sk ?_
   refine rg ?_
   obtain ⟨hc1, hB1⟩ := chk_some hB1
   refine (Or.inl ⟨hc1, ?_⟩)
   exact ⟨_, sj hB1, wt Q3 Q0 rfl⟩
  refine xt ?_
  have hB1 := out_ret hB1 hy1
  exact ⟨_, hB1, wt Q0 Q0 rfl⟩
 intro v1 h
 unfold ref27_SameDisks_J1 at h
 refine sg ?_
 refine wE [(4, vb true)] Q1 ?_
 refine rt ?_
 cases h
 exact Fz.v
theorem w_law27_ScrubDoes [Off] {p_disks} {p_j} {p_f} {r} (h : law27_ScrubDoes p_disks p_j p_f = some r) : Pure Tryz.prog 4 [(.s (mB p_disks)), (.a [(vi p_j.Id), (vi p_j.Ver), (vi p_j.From), (vi p_j.To), (vi p_j.Have), (vi p_j.Left)]), (.a [(vi p_f.Id), (vi p_f.Server), (vi p_f.What)])] (vb r) := by
 refine po Tryz.tok 65 Tryz.func4 (by kernel_rfl) rfl rfl rfl ?_
 unfold law27_ScrubDoes at h
 refine wE [(0, .s (mB p_disks)), (1, .a [vi p_j.Id, vi p_j.Ver, vi p_j.From, vi p_j.To, vi p_j.Have, vi p_j.Left]), (2, .a [vi p_f.Id, vi p_f.Server, vi p_f.What])] Q3 ?_
 refine sg ?_
 refine wT [(0, .s (mB p_disks)), (4, .b 4 0), (5, .b 5 0)] [(4, .box [vi p_j.Id, vi p_j.Ver, vi p_j.From, vi p_j.To, vi p_j.Have, vi p_j.Left]), (5, .box [vi p_f.Id, vi p_f.Server, vi p_f.What])] Q3 J2 rfl ?_
 refine sg ?_
 obtain ⟨x1, hx1, h⟩ := bindS h
 refine CallOk.call (w_law27_head hx1) (LeL.refl _) ?_
 refine wT [(0, .s (mB p_disks)), (4, .b 4 0), (5, .b 5 0), (7, vb x1)] [(4, .box [vi p_j.Id, vi p_j.Ver, vi p_j.From, vi p_j.To, vi p_j.Have, vi p_j.Left]), (5, .box [vi p_f.Id, vi p_f.Server, vi p_f.What])] Q4 J2 rfl ?_
 refine sq ?_
 refine sg ?_
 obtain ⟨x2, hx2, h⟩ := bindS h
 refine CallOk.call (w_law27_Great hx2) (.cons (lr) (.cons (Le.nil) (.nil))) ?_
 refine wT [(0, .s (mB p_disks)), (4, .b 4 0), (5, .b 5 0), (7, vb x1), (18, vb x2)] [(4, .box [vi p_j.Id, vi p_j.Ver, vi p_j.From, vi p_j.To, vi p_j.Have, vi p_j.Left]), (5, .box [vi p_f.Id, vi p_f.Server, vi p_f.What])] Q5 J2 rfl ?_
 refine cn 18 (x2) rfl h (fun hb h => ?_) fun hb h => ?_
 ·refine sg ?_
  refine wE [(6, vb x1)] Q1 ?_
  refine rt ?_
  cases h
  exact Fz.v
 refine sk ?_
 refine sg ?_
 obtain ⟨x3, hx3, h⟩ := bindS h
 refine ⟨_, rfl, ?_⟩
 refine CallOk.call (w_scrub_Copy hx3) (LeL.refl _) ?_
 refine wT [(0, .s (mB p_disks)), (4, .b 4 0), (5, .b 5 0), (7, vb x1), (8, .s (mB x3.1)), (9, vi x3.2)] [(4, .box [vi p_j.Id, vi p_j.Ver, vi p_j.From, vi p_j.To, vi p_j.Have, vi p_j.Left]), (5, .box [vi p_f.Id, vi p_f.Server, vi p_f.What])] Q6 J2 rfl ?_
 refine sg ?_
 obtain ⟨x4, hx4, h⟩ := bindS h
 refine ⟨_, rfl, ?_⟩
 refine CallOk.call (w_ref27_Copy hx4) (LeL.refl _) ?_
 refine wT [(0, .s (mB p_disks)), (5, .b 5 0), (7, vb x1), (8, .s (mB x3.1)), (9, vi x3.2), (10, .s (mB x4.1)), (11, vi x4.2)] [(5, .box [vi p_f.Id, vi p_f.Server, vi p_f.What])] Q7 J1 rfl ?_
 refine sg ?_
 obtain ⟨x5, hx5, h⟩ := bindS h
 refine ⟨_, rfl, ?_⟩
 refine CallOk.call (w_scrub_Clean hx5) (LeL.refl _) ?_
 refine wT [(0, .s (mB p_disks)), (5, .b 5 0), (7, vb x1), (8, .s (mB x3.1)), (9, vi x3.2), (10, .s (mB x4.1)), (11, vi x4.2), (12, .s (mB x5.1)), (13, vi x5.2)] [(5, .box [vi p_f.Id, vi p_f.Server, vi p_f.What])] ⟨lr, Q8⟩ J1 rfl ?_
 refine sg ?_
 obtain ⟨x6, hx6, h⟩ := bindS h
 refine ⟨_, rfl, ?_⟩
 refine CallOk.call (w_ref27_Clean hx6) (LeL.refl _) ?_
 refine wE [(7, vb x1), (8, .s (mB x3.1)), (9, vi x3.2), (10, .s (mB x4.1)), (11, vi x4.2), (12, .s (mB x5.1)), (13, vi x5.2), (14, .s (mB x6.1)), (15, vi x6.2)] ⟨lr, Q8⟩ ?_
 obtain ⟨v1, hv1, h⟩ := bindS h
 refine Ok.seqw ⟨Cat.tab [(6, vb v1)], []⟩ ?_ ?_
 ·refine rg ?_
  obtain ⟨c1, hg1, hv1⟩ := bindS hv1
  refine Br.ite hg1 (fun hb hg1 => ?_) fun hb hg1 => ?_
  ·cases hg1
   obtain ⟨c2, hg2, hv1⟩ := bindS hv1
   refine Br.ite hg2 (fun hb hg2 => ?_) fun hb hg2 => ?_
   ·obtain ⟨x7, hx7, hg2⟩ := bindS hg2
    refine CallOk.call (w_ref27_SameDisks hx7) (LeL.refl _) ?_
    cases hg2
    obtain ⟨c3, hg3, hv1⟩ := bindS hv1
    refine Br.ite hg3 (fun hb hg3 => ?_) fun hb hg3 => ?_
    ·cases hg3
     obtain ⟨c4, hg4, hv1⟩ := bindS hv1
     refine Br.ite hg4 (fun hb hg4 => ?_) fun hb hg4 => ?_
     ·obtain ⟨x8, hx8, hg4⟩ := bindS hg4
      refine CallOk.call (w_ref27_SameDisks hx8) (LeL.refl _) ?_
      cases hg4
      cases hv1
      exact wt Q1 Q0 rfl
     cases hg4
     cases hv1
     exact wt Q1 Q0 rfl
    cases hg3
    obtain ⟨c4, hg5, hv1⟩ := bindS hv1
    replace hg5 := iteF hg5
    cases hg5
    cases hv1
    exact wt Q1 Q0 rfl
   cases hg2
   obtain ⟨c3, hg6, hv1⟩ := bindS hv1
   replace hg6 := iteF hg6
   cases hg6
   obtain ⟨c4, hg7, hv1⟩ := bindS hv1
   replace hg7 := iteF hg7
   cases hg7
   cases hv1
   exact wt Q1 Q0 rfl
  cases hg1
  obtain ⟨c2, hg8, hv1⟩ := bindS hv1
  replace hg8 := iteF hg8
  cases hg8
  obtain ⟨c3, hg9, hv1⟩ := bindS hv1
  replace hg9 := iteF hg9
  cases hg9
  obtain ⟨c4, hg10, hv1⟩ := bindS hv1
  replace hg10 := iteF hg10
  cases hg10
  cases hv1
  exact wt Q1 Q0 rfl
 refine rt ?_
 cases h
 exact Fz.v
end Go.Proofs
