/- The walks of this seat beside the plain programs, part 2. No condition. -/
import Derived.Test.YtpohijpdclienabGreatXScrubRotEn
import Derived.Test.YtpohijpdclienabGreatXScrubRotWk0
import Derived.Test.YtpohijpdclienabGreatXScrubRotWk1
namespace Go.Proofs
set_option linter.all false
open Go Go.Cat
variable [M : Mono]
set_option maxRecDepth 100000
theorem wg_scrub_turn__scrub_Copy_1_2 [Off] {p_disks} {p_s} {p_b0} {r} (h : scrub_turn__scrub_Copy_1_2 p_disks p_s p_b0 = some r) : CallOk Tryz.prog 42 [(.s (mB p_disks)), (vi p_s), (.c (.func 43) [] [(.b 1000 0)])] ⟨noSlots, [(1000, .box [(vi p_b0.Id), (vi p_b0.Ver), (.s (mA p_b0.Data)), (.s (mI p_b0.Sums))])]⟩ fun x s => x = (.t [(.s (mB r.1)), (vi r.2)]) ∧ s.H = [(1000, .box [(vi p_b0.Id), (vi p_b0.Ver), (.s (mA p_b0.Data)), (.s (mI p_b0.Sums))])] := by
 refine pgen_of_ok (n := 38) (c := Tryz.f42.body.getD .skip) Tryz.tok Tryz.func42 (by kernel_rfl) rfl rfl (Nat.le_of_ble_eq_true rfl) ?_
 unfold scrub_turn__scrub_Copy_1_2 at h
 refine wT [(0, .s (mB p_disks)), (1, vi p_s), (2, .c (.func 43) [] [.b 1000 0])] [(1000, .box [vi p_b0.Id, vi p_b0.Ver, .s (mA p_b0.Data), .s (mI p_b0.Sums)])] Q3 J1 rfl ?_
 refine sg ?_
 refine wT [(0, .s (mB p_disks)), (1, vi p_s), (2, .c (.func 43) [] [.b 1000 0])] [(1000, .box [vi p_b0.Id, vi p_b0.Ver, .s (mA p_b0.Data), .s (mI p_b0.Sums)])] Q3 J1 rfl ?_
 refine sg ?_
 obtain ⟨x1, hx1, h⟩ := bindS h
 obtain ⟨x3, hx3, h⟩ := bindS h
 refine ⟨_, idx_nat hx1, _, idx_row hx1, _, rfl, ?_⟩
 refine CallOk.gen (m := [(1000, 1000)]) (n := []) (wg_scrub_Copy_1_3 hx3) (.cons (Ln.imm rfl) (.cons (Ln.b rfl) (.nil))) ⟨⟨1000, _, rfl, rfl, .box (.cons (Ln.imm rfl) (.cons (Ln.imm rfl) (.cons (Ln.imm rfl) (.cons (Ln.imm rfl) (.nil)))))⟩, Q0⟩ rfl rfl rfl ?_
 refine ⟨_, rfl, ?_⟩
 refine wT [(0, .s (mB p_disks)), (1, vi p_s), (8, .b 8 0), (9, vi x3.2.2.2)] [(8, .box [.s (mU x3.1), .s (mU x3.2.1), vb x3.2.2.1]), (1000, .box [vi p_b0.Id, vi p_b0.Ver, .s (mA p_b0.Data), .s (mI p_b0.Sums)])] Q4 J2 rfl ?_
 obtain ⟨v1, hv1, h⟩ := bindS h
 refine Ok.seqw ⟨Cat.tab [(0, .s (mB p_disks)), (1, vi p_s), (8, .b 8 0), (9, vi v1.1)], [(8, .box [.s (mU v1.2.1), .s (mU v1.2.2.1), vb v1.2.2.2]), (1000, .box [vi p_b0.Id, vi p_b0.Ver, .s (mA p_b0.Data), .s (mI p_b0.Sums)])]⟩ ?_ ?_
 ·refine sg ?_
  refine wT [(0, .s (mB p_disks)), (1, vi p_s), (8, .b 8 0), (9, vi x3.2.2.2), (21, vb (x3.2.2.2 == 0))] [(8, .box [.s (mU x3.1), .s (mU x3.2.1), vb x3.2.2.1]), (1000, .box [vi p_b0.Id, vi p_b0.Ver, .s (mA p_b0.Data), .s (mI p_b0.Sums)])] Q5 J2 rfl ?_
  refine cn 21 (x3.2.2.2 == 0) rfl hv1 (fun hb hv1 => ?_) fun hb hv1 => ?_
  ·refine rg ?_
   obtain ⟨x4, hx4, hv1⟩ := bindS hv1
   refine ⟨_, rfl, ?_⟩
   refine CallOk.call (w_disk_Sync hx4) (LeL.refl _) ?_
   refine ⟨_, rfl, ?_⟩
   cases hv1
   exact wt Q4 J2 rfl
  refine sk ?_
  cases hv1
  exact wt Q4 J2 rfl
 refine sq ?_
 refine sg ?_
 refine wT [(0, .s (mB p_disks)), (1, vi p_s), (8, .b 8 0), (9, vi v1.1), (28, vb (v1.1 != 0))] [(8, .box [.s (mU v1.2.1), .s (mU v1.2.2.1), vb v1.2.2.2]), (1000, .box [vi p_b0.Id, vi p_b0.Ver, .s (mA p_b0.Data), .s (mI p_b0.Sums)])] Q5 J2 rfl ?_
 refine cn 28 (v1.1 != 0) rfl h (fun hb h => ?_) fun hb h => ?_
 ·refine sg ?_
  refine wT [(6, .s (mB p_disks)), (7, vi v1.1)] [(1000, .box [vi p_b0.Id, vi p_b0.Ver, .s (mA p_b0.Data), .s (mI p_b0.Sums)])] Q2 J1 rfl ?_
  refine rt ?_
  cases h
  exact wt Q1 J1 rfl
 refine sk ?_
 refine sg ?_
 obtain ⟨x5, hx5, h⟩ := bindS h
 refine CallOk.own (D := 32) (wo_slices_Clone_api_Disk_api_Disk hx5) (LeL.refl _) rfl ?_
 refine wT [(1, vi p_s), (8, .b 8 0), (10, .o 32)] [(8, .box [.s (mU v1.2.1), .s (mU v1.2.2.1), vb v1.2.2.2]), (32, .own 34 3 (mB x5)), (1000, .box [vi p_b0.Id, vi p_b0.Ver, .s (mA p_b0.Data), .s (mI p_b0.Sums)])] Q3 J3 rfl ?_
 refine sg ?_
 obtain ⟨x6, hx6, h⟩ := bindS h
 refine ⟨_, rfl, _, idx_nat hx6, idx_ltm hx6, _, idx_row hx6, rfl, _, rfl, _, set_row (f := c_api_Disk) (x := (⟨v1.2.1, v1.2.2.1, v1.2.2.2⟩ : api_Disk)), ?_⟩
 refine wT [(10, .o 32)] [(32, .own 34 3 (mB (x5.set p_s.toNat (⟨v1.2.1, v1.2.2.1, v1.2.2.2⟩ : api_Disk)))), (1000, .box [vi p_b0.Id, vi p_b0.Ver, .s (mA p_b0.Data), .s (mI p_b0.Sums)])] Q1 J2 rfl ?_
 refine sg ?_
 refine wT [(6, .o 32), (7, vi (0))] [(32, .own 34 3 (mB (x5.set p_s.toNat (⟨v1.2.1, v1.2.2.1, v1.2.2.2⟩ : api_Disk)))), (1000, .box [vi p_b0.Id, vi p_b0.Ver, .s (mA p_b0.Data), .s (mI p_b0.Sums)])] Q2 J2 rfl ?_
 refine rt ?_
 cases h
 exact (Wk.freeze (id := 32) rfl).trans (wt Q1 ⟨⟨_, rfl, .refl _⟩, Q0⟩ rfl)
theorem w_scrub_Copy [Off] {p_disks} {p_j} {r} (h : scrub_Copy p_disks p_j = some r) : Pure Tryz.prog 17 [(.s (mB p_disks)), (.a [(vi p_j.Id), (vi p_j.Ver), (vi p_j.From), (vi p_j.To), (vi p_j.Have), (vi p_j.Left)])] (.t [(.s (mB r.1)), (vi r.2)]) := by
 refine po Tryz.tok 51 Tryz.func17 (by kernel_rfl) rfl rfl rfl ?_
 unfold scrub_Copy at h
 refine wE [(0, .s (mB p_disks)), (1, .a [vi p_j.Id, vi p_j.Ver, vi p_j.From, vi p_j.To, vi p_j.Have, vi p_j.Left])] Q2 ?_
 refine sg ?_
 refine wT [(0, .s (mB p_disks)), (3, .b 3 0)] [(3, .box [vi p_j.Id, vi p_j.Ver, vi p_j.From, vi p_j.To, vi p_j.Have, vi p_j.Left])] Q2 J1 rfl ?_
 refine sq ?_
 obtain ⟨v1, hv1, h⟩ := bindS h
 refine Ok.seqw ⟨Cat.tab [(0, .s (mB p_disks)), (3, .b 3 0), (19, vb v1)], [(3, .box [vi p_j.Id, vi p_j.Ver, vi p_j.From, vi p_j.To, vi p_j.Have, vi p_j.Left])]⟩ ?_ ?_
 ·refine rg ?_
  obtain ⟨x1, hx1, hv1⟩ := bindS hv1
  refine ⟨_, rfl, ?_⟩
  refine CallOk.call (w_scrub_there hx1) (LeL.refl _) ?_
  obtain ⟨c1, hg1, hv1⟩ := bindS hv1
  refine Br.itf hg1 (fun hb hg1 => ?_) fun hb hg1 => ?_
  ·cases hg1
   cases hv1
   exact wt Q3 J1 rfl
  obtain ⟨x2, hx2, hg1⟩ := bindS hg1
  refine ⟨_, rfl, ?_⟩
  refine CallOk.call (w_scrub_there hx2) (LeL.refl _) ?_
  cases hg1
  cases hv1
  exact wt Q3 J1 rfl
 refine cn 19 (v1) rfl h (fun hb h => ?_) fun hb h => ?_
 ·refine sg ?_
  refine wE [(4, .s (mB p_disks)), (5, vi (1))] Q2 ?_
  refine rt ?_
  cases h
  exact (Fz.t (.cons Fz.s (.cons Fz.v .nil)))
 refine sk ?_
 refine sq ?_
 refine Ok.draw2 (m := 12) (late := [10]) (MD := ⟨[]⟩) (CH := ⟨[]⟩) Tryz.tok Tryz.mixed (by kernel_rfl) ?_
 obtain ⟨x3, hx3, h⟩ := bindS h
 obtain ⟨x4, hx4, h⟩ := bindS h
 refine ⟨_, rfl, _, rfl, _, ⟨_, rfl, rfl⟩, _, ⟨_, idx_nat hx3, _, idx_row hx3, rfl⟩, _, ⟨_, rfl, rfl⟩, _, rfl, _, ⟨_, rfl, rfl⟩, _, ⟨_, .of_pure (w_chunk_Get hx4) (LeL.refl _), rfl⟩, _, rfl, _, rfl, _, rfl, Q0, ?_⟩
 refine ⟨_, rfl, ⟨⟨_, rfl, rfl⟩, Q0⟩, ?_⟩
 refine wT [(0, .s (mB p_disks)), (3, .b 3 0), (6, .b 6 0), (7, vi x4.2)] [(3, .box [vi p_j.Id, vi p_j.Ver, vi p_j.From, vi p_j.To, vi p_j.Have, vi p_j.Left]), (6, .box [vi x4.1.Id, vi x4.1.Ver, .s (mA x4.1.Data), .s (mI x4.1.Sums)])] Q4 J2 rfl ?_
 refine sq ?_
 refine bl ?_
 refine sg ?_
 refine wT [(0, .s (mB p_disks)), (3, .b 3 0), (6, .b 6 0), (7, vi x4.2), (32, vb (x4.2 != 0))] [(3, .box [vi p_j.Id, vi p_j.Ver, vi p_j.From, vi p_j.To, vi p_j.Have, vi p_j.Left]), (6, .box [vi x4.1.Id, vi x4.1.Ver, .s (mA x4.1.Data), .s (mI x4.1.Sums)])] Q5 J2 rfl ?_
 refine cn 32 (x4.2 != 0) rfl h (fun hb h => ?_) fun hb h => ?_
 ·refine sg ?_
  refine wE [(4, .s (mB p_disks)), (5, vi x4.2)] Q2 ?_
  refine rt ?_
  cases h
  exact (Fz.t (.cons Fz.s (.cons Fz.v .nil)))
 refine sg ?_
 refine ⟨_, rfl, _, rfl, ?_⟩
 refine wT [(0, .s (mB p_disks)), (3, .b 3 0), (6, .b 6 0), (37, vb (x4.1.Ver != p_j.Ver))] [(3, .box [vi p_j.Id, vi p_j.Ver, vi p_j.From, vi p_j.To, vi p_j.Have, vi p_j.Left]), (6, .box [vi x4.1.Id, vi x4.1.Ver, .s (mA x4.1.Data), .s (mI x4.1.Sums)])] Q4 J2 rfl ?_
 refine cn 37 (x4.1.Ver != p_j.Ver) rfl h (fun hb h => ?_) fun hb h => ?_
 ·refine sg ?_
  refine wE [(4, .s (mB p_disks)), (5, vi (250))] Q2 ?_
  refine rt ?_
  cases h
  exact (Fz.t (.cons Fz.s (.cons Fz.v .nil)))
 refine sk ?_
 refine sg ?_
 obtain ⟨x6, hx6, h⟩ := bindS h
 refine ⟨_, rfl, ?_⟩
 refine CallOk.gen (m := [(1000, 6)]) (n := []) (wg_scrub_turn__scrub_Copy_1_2 hx6) (.cons (Ln.imm rfl) (.cons (Ln.imm rfl) (.cons (Ln.c (.nil) (.cons (Ln.b rfl) (.nil))) (.nil)))) ⟨⟨6, _, rfl, rfl, .box (.cons (Ln.imm rfl) (.cons (Ln.imm rfl) (.cons (Ln.imm rfl) (.cons (Ln.imm rfl) (.nil)))))⟩, Q0⟩ rfl rfl rfl ?_
 refine wE [(4, .s (mB x6.1)), (5, vi x6.2)] Q2 ?_
 refine rt ?_
 cases h
 exact (Fz.t (.cons Fz.s (.cons Fz.v .nil)))
theorem w_chunk_Lose {p_d} {p_id} {r} (h : chunk_Lose p_d p_id = some r) : Pure Tryz.prog 45 [(.a [(.s (mU p_d.Synced)), (.s (mU p_d.Loose)), (vb p_d.Down)]), (vi p_id)] (.t [(.a [(.s (mU r.1.Synced)), (.s (mU r.1.Loose)), (vb r.1.Down)]), (vi r.2)]) := by
 refine po Tryz.tok 23 Tryz.func45 (by kernel_rfl) rfl rfl rfl ?_
 unfold chunk_Lose at h
 refine wE [(0, .a [.s (mU p_d.Synced), .s (mU p_d.Loose), vb p_d.Down]), (1, vi p_id)] Q2 ?_
 refine sg ?_
 refine wT [(1, vi p_id), (2, .b 2 0), (4, .b 4 0)] [(2, .box [.s (mU p_d.Synced), .s (mU p_d.Loose), vb p_d.Down]), (4, .box [.v (.slice none 0 0), .v (.slice none 0 0), vb false])] Q3 J2 rfl ?_
 refine sq ?_
 refine sg ?_
 obtain ⟨x1, hx1, h⟩ := bindS h
 refine ⟨_, rfl, ?_⟩
 refine CallOk.call (w_chunk_there hx1) (LeL.refl _) ?_
 refine wT [(1, vi p_id), (2, .b 2 0), (4, .b 4 0), (7, vi x1.2)] [(2, .box [.s (mU p_d.Synced), .s (mU p_d.Loose), vb p_d.Down]), (4, .box [.v (.slice none 0 0), .v (.slice none 0 0), vb false])] Q4 J2 rfl ?_
 refine sg ?_
 refine wT [(1, vi p_id), (2, .b 2 0), (4, .b 4 0), (7, vi x1.2), (15, vb (x1.2 != 0))] [(2, .box [.s (mU p_d.Synced), .s (mU p_d.Loose), vb p_d.Down]), (4, .box [.v (.slice none 0 0), .v (.slice none 0 0), vb false])] Q5 J2 rfl ?_
 refine cn 15 (x1.2 != 0) rfl h (fun hb h => ?_) fun hb h => ?_
 ·refine sg ?_
  refine ⟨_, rfl, _, rfl, ?_⟩
  refine wT [(4, .b 4 0), (5, vi x1.2)] [(4, .box [.s (mU p_d.Synced), .s (mU p_d.Loose), vb p_d.Down])] Q2 J1 rfl ?_
  refine rt ?_
  cases h
  exact ⟨_, rfl, (Fz.t (.cons (Fz.imm rfl) (.cons Fz.v .nil)))⟩
 refine sk ?_
 refine sg ?_
 obtain ⟨x2, hx2, h⟩ := bindS h
 refine ⟨_, rfl, ?_⟩
 refine CallOk.call (w_disk_Write hx2) (.cons (lr) (.cons (lr) (.cons (Le.nil) (.nil)))) ?_
 refine ⟨_, rfl, ?_⟩
 refine wT [(4, .b 4 0), (5, vi x2.2)] [(4, .box [.s (mU x2.1.Synced), .s (mU x2.1.Loose), vb x2.1.Down])] Q2 J1 rfl ?_
 refine rt ?_
 cases h
 exact ⟨_, rfl, (Fz.t (.cons (Fz.imm rfl) (.cons Fz.v .nil)))⟩
theorem wg_scrub_Clean_1_3 {p_d} {p_b0} {r} (h : scrub_Clean_1_3 p_d p_b0 = some r) : CallOk Tryz.prog 44 [(.a [(.s (mU p_d.Synced)), (.s (mU p_d.Loose)), (vb p_d.Down)]), (.b 1000 0)] ⟨noSlots, [(1000, .box [(vi p_b0.Id), (vi p_b0.Server), (vi p_b0.What)])]⟩ fun x s => x = (.t [(.a [(.s (mU r.1)), (.s (mU r.2.1)), (vb r.2.2.1)]), (vi r.2.2.2)]) ∧ s.H = [(1000, .box [(vi p_b0.Id), (vi p_b0.Server), (vi p_b0.What)])] := by
 refine pgen_of_ok (n := 11) (c := Tryz.f44.body.getD .skip) Tryz.tok Tryz.func44 (by kernel_rfl) rfl rfl (Nat.le_of_ble_eq_true rfl) ?_
 unfold scrub_Clean_1_3 at h
 refine wT [(0, .a [.s (mU p_d.Synced), .s (mU p_d.Loose), vb p_d.Down]), (1, .b 1000 0)] [(1000, .box [vi p_b0.Id, vi p_b0.Server, vi p_b0.What])] Q2 J1 rfl ?_
 refine sg ?_
 refine wT [(1, .b 1000 0), (2, .b 2 0), (3, .b 3 0)] [(1000, .box [vi p_b0.Id, vi p_b0.Server, vi p_b0.What]), (2, .box [.s (mU p_d.Synced), .s (mU p_d.Loose), vb p_d.Down]), (3, .box [.v (.slice none 0 0), .v (.slice none 0 0), vb false])] Q3 J3 rfl ?_
 refine sg ?_
 obtain ⟨x1, hx1, h⟩ := bindS h
 refine ⟨_, rfl, _, rfl, ?_⟩
 refine CallOk.call (w_chunk_Lose hx1) (LeL.refl _) ?_
 refine ⟨_, rfl, ?_⟩
 refine wT [(3, .b 3 0), (4, vi x1.2)] [(3, .box [.s (mU x1.1.Synced), .s (mU x1.1.Loose), vb x1.1.Down]), (1000, .box [vi p_b0.Id, vi p_b0.Server, vi p_b0.What])] Q2 J2 rfl ?_
 refine rt ?_
 cases h
 exact ⟨_, rfl, wt Q1 J1 rfl⟩
theorem wg_scrub_turn__scrub_Clean_1_2 [Off] {p_disks} {p_s} {p_b0} {r} (h : scrub_turn__scrub_Clean_1_2 p_disks p_s p_b0 = some r) : CallOk Tryz.prog 42 [(.s (mB p_disks)), (vi p_s), (.c (.func 44) [] [(.b 1000 0)])] ⟨noSlots, [(1000, .box [(vi p_b0.Id), (vi p_b0.Server), (vi p_b0.What)])]⟩ fun x s => x = (.t [(.s (mB r.1)), (vi r.2)]) ∧ s.H = [(1000, .box [(vi p_b0.Id), (vi p_b0.Server), (vi p_b0.What)])] := by
 refine pgen_of_ok (n := 38) (c := Tryz.f42.body.getD .skip) Tryz.tok Tryz.func42 (by kernel_rfl) rfl rfl (Nat.le_of_ble_eq_true rfl) ?_
 unfold scrub_turn__scrub_Clean_1_2 at h
 refine wT [(0, .s (mB p_disks)), (1, vi p_s), (2, .c (.func 44) [] [.b 1000 0])] [(1000, .box [vi p_b0.Id, vi p_b0.Server, vi p_b0.What])] Q3 J1 rfl ?_
 refine sg ?_
 refine wT [(0, .s (mB p_disks)), (1, vi p_s), (2, .c (.func 44) [] [.b 1000 0])] [(1000, .box [vi p_b0.Id, vi p_b0.Server, vi p_b0.What])] Q3 J1 rfl ?_
 refine sg ?_
 obtain ⟨x1, hx1, h⟩ := bindS h
 obtain ⟨x3, hx3, h⟩ := bindS h
 refine ⟨_, idx_nat hx1, _, idx_row hx1, _, rfl, ?_⟩
 refine CallOk.gen (m := [(1000, 1000)]) (n := []) (wg_scrub_Clean_1_3 hx3) (.cons (Ln.imm rfl) (.cons (Ln.b rfl) (.nil))) ⟨⟨1000, _, rfl, rfl, .box (.cons (Ln.imm rfl) (.cons (Ln.imm rfl) (.cons (Ln.imm rfl) (.nil))))⟩, Q0⟩ rfl rfl rfl ?_
 refine ⟨_, rfl, ?_⟩
 refine wT [(0, .s (mB p_disks)), (1, vi p_s), (8, .b 8 0), (9, vi x3.2.2.2)] [(8, .box [.s (mU x3.1), .s (mU x3.2.1), vb x3.2.2.1]), (1000, .box [vi p_b0.Id, vi p_b0.Server, vi p_b0.What])] Q4 J2 rfl ?_
 obtain ⟨v1, hv1, h⟩ := bindS h
 refine Ok.seqw ⟨Cat.tab [(0, .s (mB p_disks)), (1, vi p_s), (8, .b 8 0), (9, vi v1.1)], [(8, .box [.s (mU v1.2.1), .s (mU v1.2.2.1), vb v1.2.2.2]), (1000, .box [vi p_b0.Id, vi p_b0.Server, vi p_b0.What])]⟩ ?_ ?_
 ·refine sg ?_
  refine wT [(0, .s (mB p_disks)), (1, vi p_s), (8, .b 8 0), (9, vi x3.2.2.2), (21, vb (x3.2.2.2 == 0))] [(8, .box [.s (mU x3.1), .s (mU x3.2.1), vb x3.2.2.1]), (1000, .box [vi p_b0.Id, vi p_b0.Server, vi p_b0.What])] Q5 J2 rfl ?_
  refine cn 21 (x3.2.2.2 == 0) rfl hv1 (fun hb hv1 => ?_) fun hb hv1 => ?_
  ·refine rg ?_
   obtain ⟨x4, hx4, hv1⟩ := bindS hv1
   refine ⟨_, rfl, ?_⟩
   refine CallOk.call (w_disk_Sync hx4) (LeL.refl _) ?_
   refine ⟨_, rfl, ?_⟩
   cases hv1
   exact wt Q4 J2 rfl
  refine sk ?_
  cases hv1
  exact wt Q4 J2 rfl
 refine sq ?_
 refine sg ?_
 refine wT [(0, .s (mB p_disks)), (1, vi p_s), (8, .b 8 0), (9, vi v1.1), (28, vb (v1.1 != 0))] [(8, .box [.s (mU v1.2.1), .s (mU v1.2.2.1), vb v1.2.2.2]), (1000, .box [vi p_b0.Id, vi p_b0.Server, vi p_b0.What])] Q5 J2 rfl ?_
 refine cn 28 (v1.1 != 0) rfl h (fun hb h => ?_) fun hb h => ?_
 ·refine sg ?_
  refine wT [(6, .s (mB p_disks)), (7, vi v1.1)] [(1000, .box [vi p_b0.Id, vi p_b0.Server, vi p_b0.What])] Q2 J1 rfl ?_
  refine rt ?_
  cases h
  exact wt Q1 J1 rfl
 refine sk ?_
 refine sg ?_
 obtain ⟨x5, hx5, h⟩ := bindS h
 refine CallOk.own (D := 32) (wo_slices_Clone_api_Disk_api_Disk hx5) (LeL.refl _) rfl ?_
 refine wT [(1, vi p_s), (8, .b 8 0), (10, .o 32)] [(8, .box [.s (mU v1.2.1), .s (mU v1.2.2.1), vb v1.2.2.2]), (32, .own 34 3 (mB x5)), (1000, .box [vi p_b0.Id, vi p_b0.Server, vi p_b0.What])] Q3 J3 rfl ?_
 refine sg ?_
 obtain ⟨x6, hx6, h⟩ := bindS h
 refine ⟨_, rfl, _, idx_nat hx6, idx_ltm hx6, _, idx_row hx6, rfl, _, rfl, _, set_row (f := c_api_Disk) (x := (⟨v1.2.1, v1.2.2.1, v1.2.2.2⟩ : api_Disk)), ?_⟩
 refine wT [(10, .o 32)] [(32, .own 34 3 (mB (x5.set p_s.toNat (⟨v1.2.1, v1.2.2.1, v1.2.2.2⟩ : api_Disk)))), (1000, .box [vi p_b0.Id, vi p_b0.Server, vi p_b0.What])] Q1 J2 rfl ?_
 refine sg ?_
 refine wT [(6, .o 32), (7, vi (0))] [(32, .own 34 3 (mB (x5.set p_s.toNat (⟨v1.2.1, v1.2.2.1, v1.2.2.2⟩ : api_Disk)))), (1000, .box [vi p_b0.Id, vi p_b0.Server, vi p_b0.What])] Q2 J2 rfl ?_
 refine rt ?_
 cases h
 exact (Wk.freeze (id := 32) rfl).trans (wt Q1 ⟨⟨_, rfl, .refl _⟩, Q0⟩ rfl)
theorem w_scrub_Clean [Off] {p_disks} {p_f} {r} (h : scrub_Clean p_disks p_f = some r) : Pure Tryz.prog 18 [(.s (mB p_disks)), (.a [(vi p_f.Id), (vi p_f.Server), (vi p_f.What)])] (.t [(.s (mB r.1)), (vi r.2)]) := by
 refine po Tryz.tok 19 Tryz.func18 (by kernel_rfl) rfl rfl rfl ?_
 unfold scrub_Clean at h
 refine wE [(0, .s (mB p_disks)), (1, .a [vi p_f.Id, vi p_f.Server, vi p_f.What])] Q2 ?_
 refine sg ?_
 refine wT [(0, .s (mB p_disks)), (3, .b 3 0)] [(3, .box [vi p_f.Id, vi p_f.Server, vi p_f.What])] Q2 J1 rfl ?_
 refine sq ?_
 refine sg ?_
 obtain ⟨x1, hx1, h⟩ := bindS h
 refine ⟨_, rfl, ?_⟩
 refine CallOk.call (w_scrub_there hx1) (LeL.refl _) ?_
 refine wT [(0, .s (mB p_disks)), (3, .b 3 0), (10, vb (!x1))] [(3, .box [vi p_f.Id, vi p_f.Server, vi p_f.What])] Q3 J1 rfl ?_
 refine cn 10 (!x1) rfl h (fun hb h => ?_) fun hb h => ?_
 ·refine sg ?_
  refine wE [(4, .s (mB p_disks)), (5, vi (1))] Q2 ?_
  refine rt ?_
  cases h
  exact (Fz.t (.cons Fz.s (.cons Fz.v .nil)))
 refine sk ?_
 refine sg ?_
 obtain ⟨x3, hx3, h⟩ := bindS h
 refine ⟨_, rfl, ?_⟩
 refine CallOk.gen (m := [(1000, 3)]) (n := []) (wg_scrub_turn__scrub_Clean_1_2 hx3) (.cons (Ln.imm rfl) (.cons (Ln.imm rfl) (.cons (Ln.c (.nil) (.cons (Ln.b rfl) (.nil))) (.nil)))) ⟨⟨3, _, rfl, rfl, .box (.cons (Ln.imm rfl) (.cons (Ln.imm rfl) (.cons (Ln.imm rfl) (.nil))))⟩, Q0⟩ rfl rfl rfl ?_
 refine wE [(4, .s (mB x3.1)), (5, vi x3.2)] Q2 ?_
 refine rt ?_
 cases h
 exact (Fz.t (.cons Fz.s (.cons Fz.v .nil)))
theorem w_ref27_SameFinds {p_a} {p_b} {r} (h : ref27_SameFinds p_a p_b = some r) : Pure Tryz.prog 13 [(.s (mD p_a)), (.s (mD p_b))] (vb r) := by
 refine po Tryz.tok 26 Tryz.func13 (by kernel_rfl) rfl rfl rfl ?_
 unfold ref27_SameFinds at h
 refine wE [(0, .s (mD p_a)), (1, .s (mD p_b))] Q2 ?_
 refine sg ?_
 refine wE [(0, .s (mD p_a)), (1, .s (mD p_b))] Q2 ?_
 refine sq ?_
 refine sg ?_
 refine ⟨_, List.length_map _, fun _ => ⟨_, List.length_map _, fun _ => ?_⟩⟩
 refine wE [(0, .s (mD p_a)), (1, .s (mD p_b)), (10, vb ((p_a.length : Int) != (p_b.length : Int)))] Q3 ?_
 refine cn 10 ((p_a.length : Int) != (p_b.length : Int)) rfl h (fun hb h => ?_) fun hb h => ?_
 ·refine sg ?_
  refine wE [(4, vb false)] Q1 ?_
  refine rt ?_
  cases h
  exact Fz.v
 refine sk ?_
 refine Ok.seqj (fun v1 => ⟨Cat.tab [], []⟩) (fun v1 => ref27_SameFinds_J1 v1 = some r) ?_ ?_
 ·refine sg ?_
  refine wE [(0, .s (mD p_a)), (1, .s (mD p_b)), (5, vi (0))] Q3 ?_
  refine bl ?_
  refine Ok.loop (fun (s1 : Int) => ⟨Cat.tab [(0, .s (mD p_a)), (1, .s (mD p_b)), (5, vi s1)], []⟩) (ref27_SameFinds_B1 p_a p_b) (s0 := 0) h (wt Q3 Q0 rfl) ?_
  intro s1 y1 hB1 hy1
  unfold ref27_SameFinds_B1 at hB1
  refine sq ?_
  refine sg ?_
  refine ⟨_, List.length_map _, fun _ => ?_⟩
  refine wE [(0, .s (mD p_a)), (1, .s (mD p_b)), (5, vi s1), (14, vb (decide (s1 < (p_a.length : Int))))] Q4 ?_
  refine cn 14 (decide (s1 < (p_a.length : Int))) rfl hB1 (fun hb hB1 => ?_) fun hb hB1 => ?_
  ·refine sk ?_
   refine sq ?_
   refine bl ?_
   refine sq ?_
   refine Ok.draw (m := 9) (MD := ⟨[]⟩) (CH := ⟨[]⟩) Tryz.tok Tryz.mixed (by kernel_rfl) ?_
   obtain ⟨x1, hx1, hB1⟩ := bindS hB1
   obtain ⟨x2, hx2, hB1⟩ := bindS hB1
   refine ⟨_, rfl, _, rfl, _, ⟨_, idx_nat hx1, _, idx_row hx1, rfl⟩, _, ⟨_, rfl, rfl⟩, _, rfl, _, rfl, _, ⟨_, idx_nat hx2, _, idx_row hx2, rfl⟩, _, ⟨_, rfl, rfl⟩, _, ⟨[.one (.int .i64), .one (.int .i64), .one (.int .i64)], by kernel_rfl, rfl⟩, Q0, ?_⟩
   refine wE [(0, .s (mD p_a)), (1, .s (mD p_b)), (5, vi s1), (25, vb (!(x1.Id == x2.Id && (x1.Server == x2.Server && (x1.What == x2.What && true)))))] Q4 ?_
   refine cn 25 (!(x1.Id == x2.Id && (x1.Server == x2.Server && (x1.What == x2.What && true)))) rfl hB1 (fun hb hB1 => ?_) fun hb hB1 => ?_
   ·refine sg ?_
    refine wE [(4, vb false)] Q1 ?_
    refine rt ?_
    have hB1 := out_ret hB1 hy1
    cases hB1
    exact Fz.v
   refine sk ?_
   refine rg ?_
   obtain ⟨hc1, hB1⟩ := chk_some hB1
   refine (Or.inl ⟨hc1, ?_⟩)
   exact ⟨_, sj hB1, wt Q3 Q0 rfl⟩
  refine xt ?_
  have hB1 := out_ret hB1 hy1
  exact ⟨_, hB1, wt Q0 Q0 rfl⟩
 intro v1 h
 unfold ref27_SameFinds_J1 at h
 refine sg ?_
 refine wE [(4, vb true)] Q1 ?_
 refine rt ?_
 cases h
 exact Fz.v
theorem wg_slices_Values_int_int {p_s} {r} (h : slices_Values_int_int p_s = some r) : CallOk Tryz.prog 47 [(.s (mI p_s))] ⟨noSlots, []⟩ fun x s => x = (.c (.func 75) [] [(.b 1 0)]) ∧ s.H = [(1, .box [(.s (mI p_s))])] := by
 refine pgen_of_ok (n := 4) (c := Tryz.f47.body.getD .skip) Tryz.tok Tryz.func47 (by kernel_rfl) rfl rfl (Nat.le_of_ble_eq_true rfl) ?_
 unfold slices_Values_int_int at h
 refine wE [(0, .s (mI p_s))] Q1 ?_
 refine sg ?_
 refine wT [(1, .b 1 0)] [(1, .box [.s (mI p_s)])] Q1 J1 rfl ?_
 refine sg ?_
 refine wT [(2, .c (.func 75) [] [.b 1 0])] [(1, .box [.s (mI p_s)])] Q1 J1 rfl ?_
 refine rt ?_
 cases h
 exact wt Q1 J1 rfl
theorem wg_slices_Compact_int_int {p_h0} {r} (h : slices_Compact_int_int p_h0 = some r) : CallOk Tryz.prog 48 [(.o 1000)] ⟨noSlots, [(1000, .own 3 1 (mI p_h0))]⟩ fun x s => x = (.o 999) ∧ s.H = [(999, .own 3 1 (mI r))] := by
 refine pgen_of_ok (n := 61) (c := Tryz.f48.body.getD .skip) Tryz.tok Tryz.func48 (by kernel_rfl) rfl rfl (Nat.le_of_ble_eq_true rfl) ?_
 unfold slices_Compact_int_int at h
 refine wT [(0, .o 1000)] [(1000, .own 3 1 (mI p_h0))] Q1 J1 rfl ?_
 refine sg ?_
 refine wT [(0, .o 1000)] [(1000, .own 3 1 (mI p_h0))] Q1 J1 rfl ?_
 refine sq ?_
 refine sg ?_
 refine ⟨_, List.length_map _, fun _ => ?_⟩
 refine wT [(0, .o 1000), (8, vb (decide ((p_h0.length : Int) < 2)))] [(1000, .own 3 1 (mI p_h0))] Q2 J1 rfl ?_
 refine cn 8 (decide ((p_h0.length : Int) < 2)) rfl h (fun hb h => ?_) fun hb h => ?_
 ·refine sg ?_
  refine wT [(2, .o 1000)] [(1000, .own 3 1 (mI p_h0))] Q1 J1 rfl ?_
  refine rt ?_
  cases h
  exact (Wk.mv (i := 1000) (d := 999) rfl rfl rfl).trans (wt Q1 ⟨⟨_, rfl, .refl _⟩, Q0⟩ rfl)
 refine sk ?_
 refine Ok.seqj (fun v1 => ⟨Cat.tab [(0, .o 1000)], [(1000, .own 3 1 (mI p_h0))]⟩) (fun v1 => slices_Compact_int_int_J1 p_h0 v1 = some r) ?_ ?_
 ·refine sg ?_
  refine wT [(0, .o 1000), (3, vi (1))] [(1000, .own 3 1 (mI p_h0))] Q2 J1 rfl ?_
  refine bl ?_
  refine Ok.loop (fun (s1 : Int) => ⟨Cat.tab [(0, .o 1000), (3, vi s1)], [(1000, .own 3 1 (mI p_h0))]⟩) (slices_Compact_int_int_B1 p_h0) (s0 := 1) h (wt Q2 ⟨⟨_, rfl, .refl _⟩, Q0⟩ rfl) ?_
  intro s1 y1 hB1 hy1
  unfold slices_Compact_int_int_B1 at hB1
  refine sq ?_
  refine sg ?_
  refine ⟨_, List.length_map _, fun _ => ?_⟩
  refine wT [(0, .o 1000), (3, vi s1), (13, vb (decide (s1 < (p_h0.length : Int))))] [(1000, .own 3 1 (mI p_h0))] Q3 J1 rfl ?_
  refine cn 13 (decide (s1 < (p_h0.length : Int))) rfl hB1 (fun hb hB1 => ?_) fun hb hB1 => ?_
  ·refine sk ?_
   refine Ok.seqj (fun v2 => ⟨Cat.tab [(0, .o 1000), (3, vi s1)], [(1000, .own 3 1 (mI p_h0))]⟩) (fun v2 => slices_Compact_int_int_J2 s1 v2 = some y1) ?_ ?_
   ·refine bl ?_
    refine sq ?_
    refine Ok.draw (m := 10) (MD := ⟨[]⟩) (CH := ⟨[]⟩) Tryz.tok Tryz.mixed (by kernel_rfl) ?_
    obtain ⟨x1, hx1, hB1⟩ := bindS hB1
    obtain ⟨hc1, hB1⟩ := chk_some hB1
    obtain ⟨x2, hx2, hB1⟩ := bindS hB1
    refine ⟨_, rfl, _, rfl, _, ⟨_, idx_nat hx1, idx_ltm hx1, rfl⟩, _, ⟨_, idx_row hx1, rfl, _, rfl, rfl⟩, _, rfl, _, rfl, _, Or.inl ⟨hc1, rfl⟩, _, ⟨_, idx_nat hx2, idx_ltm hx2, rfl⟩, _, ⟨_, idx_row hx2, rfl, _, rfl, rfl⟩, _, rfl, Q0, ?_⟩
    refine wT [(0, .o 1000), (3, vi s1), (25, vb (x1 == x2))] [(1000, .own 3 1 (mI p_h0))] Q3 J1 rfl ?_
    refine cn 25 (x1 == x2) rfl hB1 (fun hb hB1 => ?_) fun hb hB1 => ?_
    ·refine sg ?_
     obtain ⟨hc2, hB1⟩ := chk_some hB1
     refine ⟨_, sl_nat hc2.1, sl_own hc2, ?_⟩
     refine wT [(0, .o 1000), (3, vi s1), (4, .w 1000 1 s1.toNat)] [(1000, .own 3 1 (mI p_h0))] Q3 J1 rfl ?_
     obtain ⟨v3, hv3, hB1⟩ := bindS hB1
     refine Ok.seqw ⟨Cat.tab [(0, .o 1000), (3, vi v3.1)], [(1000, .own 3 1 (mI v3.2))]⟩ ?_ ?_
     ·refine sg ?_
      refine wT [(0, .o 1000), (3, vi s1), (4, .w 1000 1 s1.toNat), (5, vi (1))] [(1000, .own 3 1 (mI p_h0))] Q4 J1 rfl ?_
      refine bl ?_
      refine Ok.loop (fun (s2 : Int × Int × (List Int)) => ⟨Cat.tab [(0, .o 1000), (3, vi s2.1), (4, .w 1000 1 s1.toNat), (5, vi s2.2.1)], [(1000, .own 3 1 (mI s2.2.2))]⟩) (slices_Compact_int_int_B2 s1) (s0 := (s1, 1, p_h0)) hv3 (wt Q4 ⟨⟨_, rfl, .refl _⟩, Q0⟩ rfl) ?_
      intro s2 y2 hB2 hy2
      unfold slices_Compact_int_int_B2 at hB2
      refine sq ?_
      refine sg ?_
      refine ⟨_, wlen _ _, fun _ => ?_⟩
      refine wT [(0, .o 1000), (3, vi s2.1), (4, .w 1000 1 s1.toNat), (5, vi s2.2.1), (32, vb (decide (s2.2.1 < ((s2.2.2.drop s1.toNat).length : Int))))] [(1000, .own 3 1 (mI s2.2.2))] Q5 J1 rfl ?_
      refine cn 32 (decide (s2.2.1 < ((s2.2.2.drop s1.toNat).length : Int))) rfl hB2 (fun hb hB2 => ?_) fun hb hB2 => ?_
      ·refine sk ?_
       obtain ⟨v4, hv4, hB2⟩ := bindS hB2
       refine Ok.seqw ⟨Cat.tab [(0, .o 1000), (3, vi v4.1), (4, .w 1000 1 s1.toNat), (5, vi s2.2.1)], [(1000, .own 3 1 (mI v4.2))]⟩ ?_ ?_
       ·refine bl ?_
        refine sq ?_
        refine Ok.draw (m := 10) (MD := ⟨[]⟩) (CH := ⟨[]⟩) Tryz.tok Tryz.mixed (by kernel_rfl) ?_
        obtain ⟨x3, hx3, hv4⟩ := bindS hv4
        obtain ⟨hc3, hv4⟩ := chk_some hv4
        obtain ⟨x4, hx4, hv4⟩ := bindS hv4
        refine ⟨_, rfl, _, rfl, _, ⟨_, idx_nat hx3, idx_ltd hx3, rfl⟩, _, ⟨_, idx_rowd hx3, rfl, _, rfl, rfl⟩, _, rfl, _, rfl, _, Or.inl ⟨hc3, rfl⟩, _, ⟨_, idx_nat hx4, idx_ltd hx4, rfl⟩, _, ⟨_, idx_rowd hx4, rfl, _, rfl, rfl⟩, _, rfl, Q0, ?_⟩
        refine wT [(0, .o 1000), (3, vi s2.1), (4, .w 1000 1 s1.toNat), (5, vi s2.2.1), (44, vb (x3 != x4))] [(1000, .own 3 1 (mI s2.2.2))] Q5 J1 rfl ?_
        refine cn 44 (x3 != x4) rfl hv4 (fun hb hv4 => ?_) fun hb hv4 => ?_
        ·refine sg ?_
         obtain ⟨x5, hx5, hv4⟩ := bindS hv4
         obtain ⟨x6, hx6, hv4⟩ := bindS hv4
         refine ⟨_, idx_nat hx5, idx_ltd hx5, _, idx_rowd hx5, rfl, _, rfl, _, idx_nat hx6, idx_ltm hx6, _, idx_row hx6, rfl, _, rfl, _, set_row (f := Go.Cat.encI) (x := x5), ?_⟩
         refine wT [(0, .o 1000), (3, vi s2.1), (4, .w 1000 1 s1.toNat), (5, vi s2.2.1)] [(1000, .own 3 1 (mI (s2.2.2.set s2.1.toNat x5)))] Q4 J1 rfl ?_
         refine rg ?_
         obtain ⟨hc4, hv4⟩ := chk_some hv4
         refine (Or.inl ⟨hc4, ?_⟩)
         cases hv4
         exact wt Q4 J1 rfl
        refine sk ?_
        cases hv4
        exact wt Q4 J1 rfl
       refine rg ?_
       obtain ⟨hc5, hB2⟩ := chk_some hB2
       refine (Or.inl ⟨hc5, ?_⟩)
       exact ⟨_, sj hB2, wt Q4 J1 rfl⟩
      refine xt ?_
      have hB2 := out_ret hB2 hy2
      cases hB2
      exact wt Q2 J1 rfl
     refine sg ?_
     obtain ⟨hc6, hB1⟩ := chk_some hB1
     refine ⟨_, sl_nat hc6.1, sl_own hc6, _, clr_rows (f := Go.Cat.encI) (z := (0 : Int)) v3.2 (v3.1.toNat), ?_⟩
     refine wT [(0, .o 1000), (3, vi v3.1)] [(1000, .own 3 1 (mI (v3.2.take (v3.1.toNat) ++ List.replicate (v3.2.length - (v3.1.toNat)) (0 : Int))))] Q2 J1 rfl ?_
     refine sq ?_
     refine Ok.wk (Wk.mv (i := 1000) (d := 999) rfl rfl rfl) ?_
     refine rg ?_
     obtain ⟨hc7, hB1⟩ := chk_some hB1
     refine ⟨_, sl_nat hc7.1, sl_own hc7, _, (List.map_take (f := Go.Cat.encI)).symm, ?_⟩
     refine wT [(2, .o 999)] [(999, .own 3 1 (mI ((v3.2.take (v3.1.toNat) ++ List.replicate (v3.2.length - (v3.1.toNat)) (0 : Int)).take v3.1.toNat)))] Q1 J1 rfl ?_
     refine rt ?_
     have hB1 := out_ret hB1 hy1
     cases hB1
     exact wt Q1 J1 rfl
    refine sk ?_
    exact ⟨_, hB1, wt Q2 ⟨⟨_, rfl, .refl _⟩, Q0⟩ rfl⟩
   intro v2 hB1
   unfold slices_Compact_int_int_J2 at hB1
   refine rg ?_
   obtain ⟨hc8, hB1⟩ := chk_some hB1
   refine (Or.inl ⟨hc8, ?_⟩)
   exact ⟨_, sj hB1, wt Q2 J1 rfl⟩
  refine xt ?_
  have hB1 := out_ret hB1 hy1
  exact ⟨_, hB1, wt Q1 ⟨⟨_, rfl, .refl _⟩, Q0⟩ rfl⟩
 intro v1 h
 unfold slices_Compact_int_int_J1 at h
 refine sg ?_
 refine wT [(2, .o 1000)] [(1000, .own 3 1 (mI p_h0))] Q1 J1 rfl ?_
 refine rt ?_
 cases h
 exact (Wk.mv (i := 1000) (d := 999) rfl rfl rfl).trans (wt Q1 ⟨⟨_, rfl, .refl _⟩, Q0⟩ rfl)
theorem w_scrub_Right [Off] {p_l} {r} (h : scrub_Right p_l = some r) : Pure Tryz.prog 19 [(.s (mC p_l))] (vb r) := by
 refine po Tryz.tok 74 Tryz.func19 (by kernel_rfl) rfl rfl rfl ?_
 unfold scrub_Right at h
 refine wE [(0, .s (mC p_l))] Q1 ?_
 refine sg ?_
 refine wE [(0, .s (mC p_l))] Q1 ?_
 refine Ok.seqj (fun v1 => ⟨Cat.tab [], []⟩) (fun v1 => scrub_Right_J1 v1 = some r) ?_ ?_
 ·refine sg ?_
  refine ⟨_, List.length_map _, fun _ => ?_⟩
  refine wE [(0, .s (mC p_l)), (6, .s (mC p_l)), (7, vi (p_l.length : Int)), (8, vi (0))] Q4 ?_
  refine bl ?_
  refine Ok.loop (fun (s1 : Int) => ⟨Cat.tab [(0, .s (mC p_l)), (6, .s (mC p_l)), (7, vi (p_l.length : Int)), (8, vi s1)], []⟩) (scrub_Right_B1 p_l) (s0 := 0) h (wt Q4 Q0 rfl) ?_
  intro s1 y1 hB1 hy1
  unfold scrub_Right_B1 at hB1
  refine sg ?_
  refine wE [(0, .s (mC p_l)), (6, .s (mC p_l)), (7, vi (p_l.length : Int)), (8, vi s1), (9, vb (decide (s1 < (p_l.length : Int))))] Q5 ?_
  refine sq ?_
  refine cn 9 (decide (s1 < (p_l.length : Int))) rfl hB1 (fun hb hB1 => ?_) fun hb hB1 => ?_
  ·refine sk ?_
   refine sq ?_
   refine bl ?_
   refine sg ?_
   obtain ⟨x1, hx1, hB1⟩ := bindS hB1
   refine ⟨_, idx_nat hx1, _, idx_row hx1, _, rfl, _, rfl, ?_⟩
   refine wT [(0, .s (mC p_l)), (3, vi s1), (4, .b 4 0), (6, .s (mC p_l)), (7, vi (p_l.length : Int)), (8, vi s1)] [(4, .box [vi x1.Id, vi x1.Ver, .s (mI x1.Servers)])] Q6 J1 rfl ?_
   refine sg ?_
   obtain ⟨x2, hx2, hB1⟩ := bindS hB1
   refine ⟨_, rfl, ?_⟩
   refine CallOk.gen (m := []) (n := [(1, 999)]) (wg_slices_Values_int_int hx2) (.cons (Ln.imm rfl) (.nil)) Q0 rfl rfl rfl ?_
   obtain ⟨hc1, hB1⟩ := chk_some hB1
   obtain ⟨x3, hx3, hB1⟩ := bindS hB1
   refine CallOk.sortedVals (D := 999) (D2 := 16) Tryz.sortedV46_75 Tryz.enters46 rfl hc1 (Option.some.inj hx3) rfl ?_
   refine wT [(0, .s (mC p_l)), (3, vi s1), (4, .b 4 0), (5, .o 16), (6, .s (mC p_l)), (7, vi (p_l.length : Int)), (8, vi s1)] [(4, .box [vi x1.Id, vi x1.Ver, .s (mI x1.Servers)]), (16, .own 3 1 (mI x3))] Q7 J2 rfl ?_
   refine sq ?_
   obtain ⟨v2, hv2, hB1⟩ := bindS hB1
   refine Ok.seqw ⟨Cat.tab [(0, .s (mC p_l)), (4, .b 4 0), (5, .o 16), (6, .s (mC p_l)), (7, vi (p_l.length : Int)), (8, vi s1), (54, vb v2)], [(4, .box [vi x1.Id, vi x1.Ver, .s (mI x1.Servers)]), (16, .own 3 1 (mI x3))]⟩ ?_ ?_
   ·refine Ok.draw (m := 38) (MD := ⟨[]⟩) (CH := ⟨[]⟩) Tryz.tok Tryz.mixed (by kernel_rfl) ?_
    refine ⟨_, rfl, _, ⟨_, rfl, rfl⟩, _, rfl, _, rfl, ?_⟩
    obtain ⟨c1, hg1, hv2⟩ := bindS hv2
    refine Br.itf hg1 (fun hb hg1 => ?_) fun hb hg1 => ?_
    ·cases hg1
     refine ⟨_, rfl, ?_⟩
     refine ⟨_, rfl, ?_⟩
     obtain ⟨c2, hg2, hv2⟩ := bindS hv2
     replace hg2 := iteT hg2
     cases hg2
     refine ⟨_, rfl, ?_⟩
     refine ⟨_, rfl, ?_⟩
     obtain ⟨c3, hg3, hv2⟩ := bindS hv2
     replace hg3 := iteT hg3
     cases hg3
     refine ⟨_, rfl, ?_⟩
     refine ⟨_, rfl, ?_⟩
     obtain ⟨c4, hg4, hv2⟩ := bindS hv2
     replace hg4 := iteT hg4
     cases hg4
     refine ⟨_, rfl, ?_⟩
     refine ⟨_, rfl, ?_⟩
     obtain ⟨c6, hg5, hv2⟩ := bindS hv2
     replace hg5 := iteT hg5
     cases hg5
     refine ⟨_, rfl, ?_⟩
     refine ⟨Q0, ?_⟩
     cases hv2
     exact wt Q7 J2 rfl
    refine ⟨_, rfl, _, ⟨_, rfl, rfl⟩, _, rfl, ?_⟩
    cases hg1
    refine ⟨_, rfl, ?_⟩
    refine ⟨_, rfl, ?_⟩
    obtain ⟨c2, hg6, hv2⟩ := bindS hv2
    refine Br.itf hg6 (fun hb hg6 => ?_) fun hb hg6 => ?_
    ·cases hg6
     refine ⟨_, rfl, ?_⟩
     refine ⟨_, rfl, ?_⟩
     obtain ⟨c3, hg7, hv2⟩ := bindS hv2
     replace hg7 := iteT hg7
     cases hg7
     refine ⟨_, rfl, ?_⟩
     refine ⟨_, rfl, ?_⟩
     obtain ⟨c4, hg8, hv2⟩ := bindS hv2
     replace hg8 := iteT hg8
     cases hg8
     refine ⟨_, rfl, ?_⟩
     refine ⟨_, rfl, ?_⟩
     obtain ⟨c6, hg9, hv2⟩ := bindS hv2
     replace hg9 := iteT hg9
     cases hg9
     refine ⟨_, rfl, ?_⟩
     refine ⟨Q0, ?_⟩
     cases hv2
     exact wt Q7 J2 rfl
    refine ⟨_, rfl, _, ⟨_, rfl, rfl⟩, _, rfl, ?_⟩
    cases hg6
    refine ⟨_, rfl, ?_⟩
    refine ⟨_, rfl, ?_⟩
    obtain ⟨c3, hg10, hv2⟩ := bindS hv2
    refine Br.itf hg10 (fun hb hg10 => ?_) fun hb hg10 => ?_
    ·cases hg10
     refine ⟨_, rfl, ?_⟩
     refine ⟨_, rfl, ?_⟩
     obtain ⟨c4, hg11, hv2⟩ := bindS hv2
     replace hg11 := iteT hg11
     cases hg11
     refine ⟨_, rfl, ?_⟩
     refine ⟨_, rfl, ?_⟩
     obtain ⟨c6, hg12, hv2⟩ := bindS hv2
     replace hg12 := iteT hg12
     cases hg12
     refine ⟨_, rfl, ?_⟩
     refine ⟨Q0, ?_⟩
     cases hv2
     exact wt Q7 J2 rfl
    refine ⟨_, rfl, _, ⟨_, rfl, rfl⟩, _, rfl, ?_⟩
    cases hg10
    refine ⟨_, rfl, ?_⟩
    refine ⟨_, rfl, ?_⟩
    obtain ⟨c4, hg13, hv2⟩ := bindS hv2
    refine Br.itf hg13 (fun hb hg13 => ?_) fun hb hg13 => ?_
    ·cases hg13
     refine ⟨_, rfl, ?_⟩
     refine ⟨_, rfl, ?_⟩
     obtain ⟨c6, hg14, hv2⟩ := bindS hv2
     replace hg14 := iteT hg14
     cases hg14
     refine ⟨_, rfl, ?_⟩
     refine ⟨Q0, ?_⟩
     cases hv2
     exact wt Q7 J2 rfl
    refine ⟨_, rfl, _, ⟨_, List.length_map _, fun _ => rfl⟩, _, rfl, ?_⟩
    cases hg13
    refine ⟨_, rfl, ?_⟩
    refine ⟨_, rfl, ?_⟩
    obtain ⟨c6, hg15, hv2⟩ := bindS hv2
    refine Br.itf hg15 (fun hb hg15 => ?_) fun hb hg15 => ?_
    ·cases hg15
     refine ⟨_, rfl, ?_⟩
     refine ⟨Q0, ?_⟩
     cases hv2
     exact wt Q7 J2 rfl
    refine ⟨_, rfl, _, rfl, _, rfl, ?_⟩
    obtain ⟨c5, hg16, hg15⟩ := bindS hg15
    refine Br.ite hg16 (fun hb hg16 => ?_) fun hb hg16 => ?_
    ·obtain ⟨hc2, hg16⟩ := chk_some hg16
     obtain ⟨x4, hx4, hg16⟩ := bindS hg16
     refine ⟨_, rfl, _, rfl, _, Or.inl ⟨hc2, rfl⟩, _, ⟨_, idx_nat hx4, _, idx_row hx4, rfl⟩, _, rfl, _, ⟨_, rfl, rfl⟩, _, rfl, _, ⟨_, rfl, rfl⟩, _, rfl, ?_⟩
     cases hg16
     refine ⟨_, rfl, ?_⟩
     cases hg15
     refine ⟨_, rfl, ?_⟩
     refine ⟨Q0, ?_⟩
     cases hv2
     exact wt Q7 J2 rfl
    cases hg16
    refine ⟨_, rfl, ?_⟩
    cases hg15
    refine ⟨_, rfl, ?_⟩
    refine ⟨Q0, ?_⟩
    cases hv2
    exact wt Q7 J2 rfl
   refine cn 54 (v2) rfl hB1 (fun hb hB1 => ?_) fun hb hB1 => ?_
   ·refine sg ?_
    refine wE [(2, vb false)] Q1 ?_
    refine rt ?_
    have hB1 := out_ret hB1 hy1
    cases hB1
    exact Fz.v
   refine sk ?_
   obtain ⟨v3, hv3, hB1⟩ := bindS hB1
   refine Ok.seqw ⟨Cat.tab [(0, .s (mC p_l)), (6, .s (mC p_l)), (7, vi (p_l.length : Int)), (8, vi s1), (72, vb v3)], []⟩ ?_ ?_
   ·refine Ok.chain (chain := [(11, [13, 14, 15]), (12, [13, 14, 15]), (16, []), (17, [])]) Tryz.tok Tryz.mixed (by kernel_rfl) ?_
    refine ⟨_, rfl, _, ⟨_, List.length_map _, fun _ => rfl⟩, _, rfl, _, rfl, ?_⟩
    obtain ⟨c7, hg17, hv3⟩ := bindS hv3
    refine Br.ite hg17 (fun hb hg17 => ?_) fun hb hg17 => ?_
    ·obtain ⟨x5, hx5, hg17⟩ := bindS hg17
     refine ⟨_, rfl, _, ⟨_, idx_nat hx5, idx_ltm hx5, rfl⟩, _, ⟨_, idx_row hx5, rfl, _, rfl, rfl⟩, _, rfl, ?_⟩
     cases hg17
     refine ⟨_, rfl, ?_⟩
     refine ⟨_, rfl, ?_⟩
     obtain ⟨c8, hg18, hv3⟩ := bindS hv3
     refine Br.itf hg18 (fun hb hg18 => ?_) fun hb hg18 => ?_
     ·refine ⟨⟨⟨_, rfl, _, rfl, .inr (.inl ⟨rfl, rfl⟩)⟩, ⟨_, rfl, _, rfl, .inr (.inl ⟨rfl, rfl⟩)⟩, ⟨_, rfl, _, rfl, .inr (.inl ⟨rfl, rfl⟩)⟩, Q0⟩, ⟨⟨_, rfl, _, rfl, .inr (.inl ⟨rfl, rfl⟩)⟩, ⟨_, rfl, _, rfl, .inr (.inl ⟨rfl, rfl⟩)⟩, ⟨_, rfl, _, rfl, .inr (.inl ⟨rfl, rfl⟩)⟩, Q0⟩, Q0, ?_⟩
      cases hg18
      refine ⟨Q0, ?_⟩
      cases hv3
      exact wt Q5 Q0 rfl
     obtain ⟨x6, hx6, hg18⟩ := bindS hg18
     refine ⟨_, rfl, _, rfl, _, ⟨_, rfl, rfl⟩, _, ⟨_, List.length_map _, fun _ => rfl⟩, ?_⟩
     refine CallOk.gen (m := [(1000, 16)]) (n := [(999, 16)]) (wg_slices_Compact_int_int hx6) (.cons (Ln.o rfl) (.nil)) ⟨⟨16, _, rfl, rfl, .refl rfl⟩, Q0⟩ rfl rfl rfl ?_
     refine ⟨⟨⟨_, rfl, _, rfl, .inl ⟨rfl, rfl⟩⟩, ⟨_, rfl, _, rfl, .inl ⟨rfl, _, rfl, rfl⟩⟩, ⟨_, rfl, _, rfl, .inl ⟨rfl, _, List.length_map _, fun _ => rfl⟩⟩, Q0⟩, _, List.length_map _, fun _ => ⟨⟨⟨_, rfl, _, rfl, .inl ⟨rfl, rfl⟩⟩, ⟨_, rfl, _, rfl, .inl ⟨rfl, _, rfl, rfl⟩⟩, ⟨_, rfl, _, rfl, .inl ⟨rfl, _, List.length_map _, fun _ => rfl⟩⟩, Q0⟩, Q0, ?_⟩⟩
     cases hg18
     refine ⟨Q0, ?_⟩
     cases hv3
     exact wt Q5 Q0 rfl
    cases hg17
    refine ⟨_, rfl, ?_⟩
    refine ⟨_, rfl, ?_⟩
    obtain ⟨c8, hg19, hv3⟩ := bindS hv3
    replace hg19 := iteF hg19
    obtain ⟨x6, hx6, hg19⟩ := bindS hg19
    refine ⟨_, rfl, _, rfl, _, ⟨_, rfl, rfl⟩, _, ⟨_, List.length_map _, fun _ => rfl⟩, ?_⟩
    refine CallOk.gen (m := [(1000, 16)]) (n := [(999, 16)]) (wg_slices_Compact_int_int hx6) (.cons (Ln.o rfl) (.nil)) ⟨⟨16, _, rfl, rfl, .refl rfl⟩, Q0⟩ rfl rfl rfl ?_
    refine ⟨⟨⟨_, rfl, _, rfl, .inl ⟨rfl, rfl⟩⟩, ⟨_, rfl, _, rfl, .inl ⟨rfl, _, rfl, rfl⟩⟩, ⟨_, rfl, _, rfl, .inl ⟨rfl, _, List.length_map _, fun _ => rfl⟩⟩, Q0⟩, _, List.length_map _, fun _ => ⟨⟨⟨_, rfl, _, rfl, .inl ⟨rfl, rfl⟩⟩, ⟨_, rfl, _, rfl, .inl ⟨rfl, _, rfl, rfl⟩⟩, ⟨_, rfl, _, rfl, .inl ⟨rfl, _, List.length_map _, fun _ => rfl⟩⟩, Q0⟩, Q0, ?_⟩⟩
    cases hg19
    refine ⟨Q0, ?_⟩
    cases hv3
    exact wt Q5 Q0 rfl
   refine cn 72 (v3) rfl hB1 (fun hb hB1 => ?_) fun hb hB1 => ?_
   ·refine sg ?_
    refine wE [(2, vb false)] Q1 ?_
    refine rt ?_
    have hB1 := out_ret hB1 hy1
    cases hB1
    exact Fz.v
   refine sk ?_
   refine rg ?_
   obtain ⟨hc3, hB1⟩ := chk_some hB1
   refine (Or.inl ⟨hc3, ?_⟩)
   exact ⟨_, sj hB1, wt Q4 Q0 rfl⟩
  refine xt ?_
  have hB1 := out_ret hB1 hy1
  exact ⟨_, hB1, wt Q0 Q0 rfl⟩
 intro v1 h
 unfold scrub_Right_J1 at h
 refine sg ?_
 refine wE [(2, vb true)] Q1 ?_
 refine rt ?_
 cases h
 exact Fz.v
theorem w_ref02_Ints {p_a} {p_b} {r} (h : ref02_Ints p_a p_b = some r) : Pure Tryz.prog 14 [(.s (mI p_a)), (.s (mI p_b))] (vb r) := by
 refine po Tryz.tok 26 Tryz.func14 (by kernel_rfl) rfl rfl rfl ?_
 unfold ref02_Ints at h
 refine wE [(0, .s (mI p_a)), (1, .s (mI p_b))] Q2 ?_
 refine sg ?_
 refine wE [(0, .s (mI p_a)), (1, .s (mI p_b))] Q2 ?_
 refine sq ?_
 refine sg ?_
 refine ⟨_, List.length_map _, fun _ => ⟨_, List.length_map _, fun _ => ?_⟩⟩
 refine wE [(0, .s (mI p_a)), (1, .s (mI p_b)), (10, vb ((p_a.length : Int) != (p_b.length : Int)))] Q3 ?_
 refine cn 10 ((p_a.length : Int) != (p_b.length : Int)) rfl h (fun hb h => ?_) fun hb h => ?_
 ·refine sg ?_
  refine wE [(4, vb false)] Q1 ?_
  refine rt ?_
  cases h
  exact Fz.v
 refine sk ?_
 refine Ok.seqj (fun v1 => ⟨Cat.tab [], []⟩) (fun v1 => ref02_Ints_J1 v1 = some r) ?_ ?_
 ·refine sg ?_
  refine wE [(0, .s (mI p_a)), (1, .s (mI p_b)), (5, vi (0))] Q3 ?_
  refine bl ?_
  refine Ok.loop (fun (s1 : Int) => ⟨Cat.tab [(0, .s (mI p_a)), (1, .s (mI p_b)), (5, vi s1)], []⟩) (ref02_Ints_B1 p_a p_b) (s0 := 0) h (wt Q3 Q0 rfl) ?_
  intro s1 y1 hB1 hy1
  unfold ref02_Ints_B1 at hB1
  refine sq ?_
  refine sg ?_
  refine ⟨_, List.length_map _, fun _ => ?_⟩
  refine wE [(0, .s (mI p_a)), (1, .s (mI p_b)), (5, vi s1), (14, vb (decide (s1 < (p_a.length : Int))))] Q4 ?_
  refine cn 14 (decide (s1 < (p_a.length : Int))) rfl hB1 (fun hb hB1 => ?_) fun hb hB1 => ?_
  ·refine sk ?_
   refine sq ?_
   refine bl ?_
   refine sq ?_
   refine Ok.draw (m := 9) (MD := ⟨[]⟩) (CH := ⟨[]⟩) Tryz.tok Tryz.mixed (by kernel_rfl) ?_
   obtain ⟨x1, hx1, hB1⟩ := bindS hB1
   obtain ⟨x2, hx2, hB1⟩ := bindS hB1
   refine ⟨_, rfl, _, rfl, _, ⟨_, idx_nat hx1, _, idx_row hx1, rfl⟩, _, ⟨_, rfl, rfl⟩, _, rfl, _, rfl, _, ⟨_, idx_nat hx2, _, idx_row hx2, rfl⟩, _, ⟨_, rfl, rfl⟩, _, rfl, Q0, ?_⟩
   refine wE [(0, .s (mI p_a)), (1, .s (mI p_b)), (5, vi s1), (25, vb (x1 != x2))] Q4 ?_
   refine cn 25 (x1 != x2) rfl hB1 (fun hb hB1 => ?_) fun hb hB1 => ?_
   ·refine sg ?_
    refine wE [(4, vb false)] Q1 ?_
    refine rt ?_
    have hB1 := out_ret hB1 hy1
    cases hB1
    exact Fz.v
   refine sk ?_
   refine rg ?_
   obtain ⟨hc1, hB1⟩ := chk_some hB1
   refine (Or.inl ⟨hc1, ?_⟩)
   exact ⟨_, sj hB1, wt Q3 Q0 rfl⟩
  refine xt ?_
  have hB1 := out_ret hB1 hy1
  exact ⟨_, hB1, wt Q0 Q0 rfl⟩
 intro v1 h
 unfold ref02_Ints_J1 at h
 refine sg ?_
 refine wE [(4, vb true)] Q1 ?_
 refine rt ?_
 cases h
 exact Fz.v
theorem w_ref27_SameJobs {p_a} {p_b} {r} (h : ref27_SameJobs p_a p_b = some r) : Pure Tryz.prog 20 [(.s (mE p_a)), (.s (mE p_b))] (vb r) := by
 refine po Tryz.tok 26 Tryz.func20 (by kernel_rfl) rfl rfl rfl ?_
 unfold ref27_SameJobs at h
 refine wE [(0, .s (mE p_a)), (1, .s (mE p_b))] Q2 ?_
 refine sg ?_
 refine wE [(0, .s (mE p_a)), (1, .s (mE p_b))] Q2 ?_
 refine sq ?_
 refine sg ?_
 refine ⟨_, List.length_map _, fun _ => ⟨_, List.length_map _, fun _ => ?_⟩⟩
 refine wE [(0, .s (mE p_a)), (1, .s (mE p_b)), (10, vb ((p_a.length : Int) != (p_b.length : Int)))] Q3 ?_
 refine cn 10 ((p_a.length : Int) != (p_b.length : Int)) rfl h (fun hb h => ?_) fun hb h => ?_
 ·refine sg ?_
  refine wE [(4, vb false)] Q1 ?_
  refine rt ?_
  cases h
  exact Fz.v
 refine sk ?_
 refine Ok.seqj (fun v1 => ⟨Cat.tab [], []⟩) (fun v1 => ref27_SameJobs_J1 v1 = some r) ?_ ?_
 ·refine sg ?_
  refine wE [(0, .s (mE p_a)), (1, .s (mE p_b)), (5, vi (0))] Q3 ?_
  refine bl ?_
  refine Ok.loop (fun (s1 : Int) => ⟨Cat.tab [(0, .s (mE p_a)), (1, .s (mE p_b)), (5, vi s1)], []⟩) (ref27_SameJobs_B1 p_a p_b) (s0 := 0) h (wt Q3 Q0 rfl) ?_
  intro s1 y1 hB1 hy1
  unfold ref27_SameJobs_B1 at hB1
  refine sq ?_
  refine sg ?_
  refine ⟨_, List.length_map _, fun _ => ?_⟩
  refine wE [(0, .s (mE p_a)), (1, .s (mE p_b)), (5, vi s1), (14, vb (decide (s1 < (p_a.length : Int))))] Q4 ?_
  refine cn 14 (decide (s1 < (p_a.length : Int))) rfl hB1 (fun hb hB1 => ?_) fun hb hB1 => ?_
  ·refine sk ?_
   refine sq ?_
   refine bl ?_
   refine sq ?_
   refine Ok.draw (m := 9) (MD := ⟨[]⟩) (CH := ⟨[]⟩) Tryz.tok Tryz.mixed (by kernel_rfl) ?_
   obtain ⟨x1, hx1, hB1⟩ := bindS hB1
   obtain ⟨x2, hx2, hB1⟩ := bindS hB1
   refine ⟨_, rfl, _, rfl, _, ⟨_, idx_nat hx1, _, idx_row hx1, rfl⟩, _, ⟨_, rfl, rfl⟩, _, rfl, _, rfl, _, ⟨_, idx_nat hx2, _, idx_row hx2, rfl⟩, _, ⟨_, rfl, rfl⟩, _, ⟨[.one (.int .i64), .one (.int .i64), .one (.int .i64), .one (.int .i64), .one (.int .i64), .one (.int .i64)], by kernel_rfl, rfl⟩, Q0, ?_⟩
   refine wE [(0, .s (mE p_a)), (1, .s (mE p_b)), (5, vi s1), (25, vb (!(x1.Id == x2.Id && (x1.Ver == x2.Ver && (x1.From == x2.From && (x1.To == x2.To && (x1.Have == x2.Have && (x1.Left == x2.Left && true))))))))] Q4 ?_
   refine cn 25 (!(x1.Id == x2.Id && (x1.Ver == x2.Ver && (x1.From == x2.From && (x1.To == x2.To && (x1.Have == x2.Have && (x1.Left == x2.Left && true))))))) rfl hB1 (fun hb hB1 => ?_) fun hb hB1 => ?_
   ·refine sg ?_
    refine wE [(4, vb false)] Q1 ?_
    refine rt ?_
    have hB1 := out_ret hB1 hy1
    cases hB1
    exact Fz.v
   refine sk ?_
   refine rg ?_
   obtain ⟨hc1, hB1⟩ := chk_some hB1
   refine (Or.inl ⟨hc1, ?_⟩)
   exact ⟨_, sj hB1, wt Q3 Q0 rfl⟩
  refine xt ?_
  have hB1 := out_ret hB1 hy1
  exact ⟨_, hB1, wt Q0 Q0 rfl⟩
 intro v1 h
 unfold ref27_SameJobs_J1 at h
 refine sg ?_
 refine wE [(4, vb true)] Q1 ?_
 refine rt ?_
 cases h
 exact Fz.v
theorem wo_chunk_Has {p_d} {r} (h : chunk_Has p_d = some r) : POwn Tryz.prog 49 [(.a [(.s (mU p_d.Synced)), (.s (mU p_d.Loose)), (vb p_d.Down)])] 3 1 (mI r) := by
 refine pw Tryz.tok 24 Tryz.func49 (by kernel_rfl) rfl rfl rfl ?_
 unfold chunk_Has at h
 refine wE [(0, .a [.s (mU p_d.Synced), .s (mU p_d.Loose), vb p_d.Down])] Q1 ?_
 refine sg ?_
 refine wT [(1, .b 1 0)] [(1, .box [.s (mU p_d.Synced), .s (mU p_d.Loose), vb p_d.Down])] Q1 J1 rfl ?_
 refine sg ?_
 refine wT [(1, .b 1 0), (3, .v (.slice none 0 0))] [(1, .box [.s (mU p_d.Synced), .s (mU p_d.Loose), vb p_d.Down])] Q2 J1 rfl ?_
 obtain ⟨v1, hv1, h⟩ := bindS h
 refine Ok.seqw ⟨Cat.tab [(3, .o 21)], [(21, .own 3 1 (mI v1))]⟩ ?_ ?_
 ·refine sg ?_
  refine wT [(1, .b 1 0), (3, .v (.slice none 0 0)), (7, vi (0))] [(1, .box [.s (mU p_d.Synced), .s (mU p_d.Loose), vb p_d.Down])] Q3 J1 rfl ?_
  refine bl ?_
  refine Ok.loop (fun (s1 : Int × (List Int)) => ⟨Cat.tab [(1, .b 1 0), (3, .o 21), (7, vi s1.1)], [(1, .box [.s (mU p_d.Synced), .s (mU p_d.Loose), vb p_d.Down]), (21, .own 3 1 (mI s1.2))]⟩) (chunk_Has_B1 p_d) (s0 := (0, [])) hv1 ((Wk.own0 (t := 3) (id := 21) (E := 3) (K := 1) rfl rfl).trans (wt Q3 ⟨⟨_, rfl, .refl _⟩, ⟨_, rfl, .refl _⟩, Q0⟩ rfl)) ?_
  intro s1 y1 hB1 hy1
  unfold chunk_Has_B1 at hB1
  refine sg ?_
  refine wT [(1, .b 1 0), (3, .o 21), (7, vi s1.1), (8, vb (decide (s1.1 < 200)))] [(1, .box [.s (mU p_d.Synced), .s (mU p_d.Loose), vb p_d.Down]), (21, .own 3 1 (mI s1.2))] Q4 J2 rfl ?_
  refine sq ?_
  refine cn 8 (decide (s1.1 < 200)) rfl hB1 (fun hb hB1 => ?_) fun hb hB1 => ?_
  ·refine sk ?_
   obtain ⟨v2, hv2, hB1⟩ := bindS hB1
   refine Ok.seqw ⟨Cat.tab [(1, .b 1 0), (3, .o 21), (7, vi s1.1)], [(1, .box [.s (mU p_d.Synced), .s (mU p_d.Loose), vb p_d.Down]), (21, .own 3 1 (mI v2))]⟩ ?_ ?_
   ·refine bl ?_
    refine sg ?_
    refine wT [(1, .b 1 0), (3, .o 21), (4, vi s1.1), (7, vi s1.1)] [(1, .box [.s (mU p_d.Synced), .s (mU p_d.Loose), vb p_d.Down]), (21, .own 3 1 (mI s1.2))] Q4 J2 rfl ?_
    refine sg ?_
    obtain ⟨x1, hx1, hv2⟩ := bindS hv2
    refine ⟨_, rfl, ?_⟩
    refine CallOk.call (w_chunk_there hx1) (LeL.refl _) ?_
    refine wT [(1, .b 1 0), (3, .o 21), (4, vi s1.1), (6, vi x1.2), (7, vi s1.1)] [(1, .box [.s (mU p_d.Synced), .s (mU p_d.Loose), vb p_d.Down]), (21, .own 3 1 (mI s1.2))] Q5 J2 rfl ?_
    refine sg ?_
    refine wT [(1, .b 1 0), (3, .o 21), (4, vi s1.1), (7, vi s1.1), (17, vb (x1.2 == 0))] [(1, .box [.s (mU p_d.Synced), .s (mU p_d.Loose), vb p_d.Down]), (21, .own 3 1 (mI s1.2))] Q5 J2 rfl ?_
    refine cn 17 (x1.2 == 0) rfl hv2 (fun hb hv2 => ?_) fun hb hv2 => ?_
    ·refine rg ?_
     obtain ⟨hc1, hv2⟩ := chk_some hv2
     refine Or.inl ⟨rowsLen_map (f := Go.Cat.encI) (n := 1) (fun _ => rfl) ([s1.1]), app_b2 (f := Go.Cat.encI) (l := s1.2) (l' := [s1.1]) hc1, _, (List.map_append (f := Go.Cat.encI) (l₁ := s1.2) (l₂ := [s1.1])).symm, ?_⟩
     cases hv2
     exact wt Q3 J2 rfl
    refine sk ?_
    cases hv2
    exact wt Q3 J2 rfl
   refine rg ?_
   obtain ⟨hc2, hB1⟩ := chk_some hB1
   refine (Or.inl ⟨hc2, ?_⟩)
   exact ⟨_, sj hB1, wt Q3 J2 rfl⟩
  refine xt ?_
  have hB1 := out_ret hB1 hy1
  cases hB1
  exact wt Q1 J1 rfl
 refine sg ?_
 refine wT [(2, .o 21)] [(21, .own 3 1 (mI v1))] Q1 J1 rfl ?_
 refine rt ?_
 cases h
 exact (.inr ⟨_, rfl, rfl⟩)
theorem w_chunk_Has {p_d} {r} (h : chunk_Has p_d = some r) : Pure Tryz.prog 49 [(.a [(.s (mU p_d.Synced)), (.s (mU p_d.Loose)), (vb p_d.Down)])] (.s (mI r)) := (wo_chunk_Has h).pure
theorem w_slices_Contains_int_int {p_s} {p_v} {r} (h : slices_Contains_int_int p_s p_v = some r) : Pure Tryz.prog 51 [(.s (mI p_s)), (vi p_v)] (vb r) := by
 refine po Tryz.tok 9 Tryz.func51 (by kernel_rfl) rfl rfl rfl ?_
 unfold slices_Contains_int_int at h
 refine wE [(0, .s (mI p_s)), (1, vi p_v)] Q2 ?_
 refine sg ?_
 refine wE [(0, .s (mI p_s)), (1, vi p_v)] Q2 ?_
 refine sg ?_
 obtain ⟨x1, hx1, h⟩ := bindS h
 refine CallOk.call (w_slices_Index_int_int hx1) (LeL.refl _) ?_
 refine wE [(4, vb (decide (x1 ≥ 0)))] Q1 ?_
 refine rt ?_
 cases h
 exact Fz.v
theorem w_scrub_Strays_1 {p_c} {p_a1_0} {p_a2_0} {r} (h : scrub_Strays_1 p_c p_a1_0 p_a2_0 = some r) : Pure Tryz.prog 50 [(.a [(vi p_c.Id), (vi p_c.Ver), (.s (mI p_c.Servers))]), (.p [(vi p_a1_0)]), (.p [(vi p_a2_0)])] (vb r) := by
 refine po Tryz.tok 15 Tryz.func50 (by kernel_rfl) rfl rfl rfl ?_
 unfold scrub_Strays_1 at h
 refine wE [(0, .a [vi p_c.Id, vi p_c.Ver, .s (mI p_c.Servers)]), (1, .p [vi p_a1_0]), (2, .p [vi p_a2_0])] Q3 ?_
 refine sg ?_
 refine wT [(1, .p [vi p_a1_0]), (2, .p [vi p_a2_0]), (3, .b 3 0)] [(3, .box [vi p_c.Id, vi p_c.Ver, .s (mI p_c.Servers)])] Q3 J1 rfl ?_
 obtain ⟨v1, hv1, h⟩ := bindS h
 refine Ok.seqw ⟨Cat.tab [(4, vb v1)], []⟩ ?_ ?_
 ·refine rg ?_
  refine ⟨_, rfl, _, rfl, ?_⟩
  obtain ⟨c1, hg1, hv1⟩ := bindS hv1
  refine Br.ite hg1 (fun hb hg1 => ?_) fun hb hg1 => ?_
  ·obtain ⟨x1, hx1, hg1⟩ := bindS hg1
   refine ⟨_, rfl, _, rfl, ?_⟩
   refine CallOk.call (w_slices_Contains_int_int hx1) (LeL.refl _) ?_
   cases hg1
   cases hv1
   exact wt Q1 Q0 rfl
  cases hg1
  cases hv1
  exact wt Q1 Q0 rfl
 refine rt ?_
 cases h
 exact Fz.v
theorem w_slices_IndexFunc_api_Chain_api_Chain__scrub_Strays_1 {p_s} {p_f_c0_0} {p_f_c1_0} {r} (h : slices_IndexFunc_api_Chain_api_Chain__scrub_Strays_1 p_s p_f_c0_0 p_f_c1_0 = some r) : Pure Tryz.prog 76 [(.s (mC p_s)), (.c (.func 50) [] [(.p [(vi p_f_c0_0)]), (.p [(vi p_f_c1_0)])])] (vi r) := by
 refine po Tryz.tok 19 Tryz.func76 (by kernel_rfl) rfl rfl rfl ?_
 unfold slices_IndexFunc_api_Chain_api_Chain__scrub_Strays_1 at h
 refine wE [(0, .s (mC p_s)), (1, .c (.func 50) [] [.p [vi p_f_c0_0], .p [vi p_f_c1_0]])] Q2 ?_
 refine sg ?_
 refine wE [(0, .s (mC p_s)), (1, .c (.func 50) [] [.p [vi p_f_c0_0], .p [vi p_f_c1_0]])] Q2 ?_
 refine Ok.seqj (fun v1 => ⟨Cat.tab [], []⟩) (fun v1 => slices_IndexFunc_api_Chain_api_Chain__scrub_Strays_1_J1 v1 = some r) ?_ ?_
 ·refine sg ?_
  refine ⟨_, List.length_map _, fun _ => ?_⟩
  refine wE [(0, .s (mC p_s)), (1, .c (.func 50) [] [.p [vi p_f_c0_0], .p [vi p_f_c1_0]]), (7, vi (p_s.length : Int)), (8, vi (0))] Q4 ?_
  refine bl ?_
  refine Ok.loop (fun (s1 : Int) => ⟨Cat.tab [(0, .s (mC p_s)), (1, .c (.func 50) [] [.p [vi p_f_c0_0], .p [vi p_f_c1_0]]), (7, vi (p_s.length : Int)), (8, vi s1)], []⟩) (slices_IndexFunc_api_Chain_api_Chain__scrub_Strays_1_B1 p_s p_f_c0_0 p_f_c1_0) (s0 := 0) h (wt Q4 Q0 rfl) ?_
  intro s1 y1 hB1 hy1
  unfold slices_IndexFunc_api_Chain_api_Chain__scrub_Strays_1_B1 at hB1
  refine sg ?_
  refine wE [(0, .s (mC p_s)), (1, .c (.func 50) [] [.p [vi p_f_c0_0], .p [vi p_f_c1_0]]), (7, vi (p_s.length : Int)), (8, vi s1), (9, vb (decide (s1 < (p_s.length : Int))))] Q5 ?_
  refine sq ?_
  refine cn 9 (decide (s1 < (p_s.length : Int))) rfl hB1 (fun hb hB1 => ?_) fun hb hB1 => ?_
  ·refine sk ?_
   refine sq ?_
   refine bl ?_
   refine sg ?_
   refine wE [(0, .s (mC p_s)), (1, .c (.func 50) [] [.p [vi p_f_c0_0], .p [vi p_f_c1_0]]), (5, vi s1), (7, vi (p_s.length : Int)), (8, vi s1)] Q5 ?_
   refine sg ?_
   obtain ⟨x1, hx1, hB1⟩ := bindS hB1
   obtain ⟨x2, hx2, hB1⟩ := bindS hB1
   refine ⟨_, idx_nat hx1, _, idx_row hx1, _, rfl, ?_⟩
   refine CallOk.call (w_scrub_Strays_1 hx2) (LeL.refl _) ?_
   refine wE [(0, .s (mC p_s)), (1, .c (.func 50) [] [.p [vi p_f_c0_0], .p [vi p_f_c1_0]]), (5, vi s1), (7, vi (p_s.length : Int)), (8, vi s1), (16, vb x2)] Q6 ?_
   refine cn 16 (x2) rfl hB1 (fun hb hB1 => ?_) fun hb hB1 => ?_
   ·refine sg ?_
    refine wE [(4, vi s1)] Q1 ?_
    refine rt ?_
    have hB1 := out_ret hB1 hy1
    cases hB1
    exact Fz.v
   refine sk ?_
   refine rg ?_
   obtain ⟨hc1, hB1⟩ := chk_some hB1
   refine (Or.inl ⟨hc1, ?_⟩)
   exact ⟨_, sj hB1, wt Q4 Q0 rfl⟩
  refine xt ?_
  have hB1 := out_ret hB1 hy1
  exact ⟨_, hB1, wt Q0 Q0 rfl⟩
 intro v1 h
 unfold slices_IndexFunc_api_Chain_api_Chain__scrub_Strays_1_J1 at h
 refine sg ?_
 refine wE [(4, vi (-1))] Q1 ?_
 refine rt ?_
 cases h
 exact Fz.v
theorem w_slices_ContainsFunc_api_Chain_api_Chain__scrub_Strays_1 {p_s} {p_f_c0} {p_f_c1} {r} (h : slices_ContainsFunc_api_Chain_api_Chain__scrub_Strays_1 p_s p_f_c0 p_f_c1 = some r) : Pure Tryz.prog 52 [(.s (mC p_s)), (.c (.func 50) [] [(.p [(vi p_f_c0)]), (.p [(vi p_f_c1)])])] (vb r) := by
 refine po Tryz.tok 9 Tryz.func52 (by kernel_rfl) rfl rfl rfl ?_
 unfold slices_ContainsFunc_api_Chain_api_Chain__scrub_Strays_1 at h
 refine wE [(0, .s (mC p_s)), (1, .c (.func 50) [] [.p [vi p_f_c0], .p [vi p_f_c1]])] Q2 ?_
 refine sg ?_
 refine wE [(0, .s (mC p_s)), (1, .c (.func 50) [] [.p [vi p_f_c0], .p [vi p_f_c1]])] Q2 ?_
 refine sg ?_
 obtain ⟨x1, hx1, h⟩ := bindS h
 refine CallOk.call (w_slices_IndexFunc_api_Chain_api_Chain__scrub_Strays_1 hx1) (LeL.refl _) ?_
 refine wE [(4, vb (decide (x1 ≥ 0)))] Q1 ?_
 refine rt ?_
 cases h
 exact Fz.v
theorem wo_scrub_Strays {p_disks} {p_l} {r} (h : scrub_Strays p_disks p_l = some r) : POwn Tryz.prog 21 [(.s (mB p_disks)), (.s (mC p_l))] 50 3 (mD r) := by
 refine pw Tryz.tok 39 Tryz.func21 (by kernel_rfl) rfl rfl rfl ?_
 unfold scrub_Strays at h
 refine wE [(0, .s (mB p_disks)), (1, .s (mC p_l))] Q2 ?_
 refine sg ?_
 refine wE [(0, .s (mB p_disks)), (1, .s (mC p_l))] Q2 ?_
 refine sg ?_
 refine wE [(0, .s (mB p_disks)), (1, .s (mC p_l)), (5, .v (.slice none 0 0))] Q3 ?_
 obtain ⟨v1, hv1, h⟩ := bindS h
 refine Ok.seqw ⟨Cat.tab [(5, .o 35)], [(35, .own 50 3 (mD v1))]⟩ ?_ ?_
 ·refine sg ?_
  refine ⟨_, List.length_map _, fun _ => ?_⟩
  refine wE [(1, .s (mC p_l)), (5, .v (.slice none 0 0)), (11, .s (mB p_disks)), (12, vi (p_disks.length : Int)), (13, vi (0))] Q5 ?_
  refine bl ?_
  refine Ok.loop (fun (s1 : Int × (List api_Find)) => ⟨Cat.tab [(1, .s (mC p_l)), (5, .o 35), (11, .s (mB p_disks)), (12, vi (p_disks.length : Int)), (13, vi s1.1)], [(35, .own 50 3 (mD s1.2))]⟩) (scrub_Strays_B1 p_disks p_l) (s0 := (0, [])) hv1 ((Wk.own0 (t := 5) (id := 35) (E := 50) (K := 3) rfl rfl).trans (wt Q5 ⟨⟨_, rfl, .refl _⟩, Q0⟩ rfl)) ?_
  intro s1 y1 hB1 hy1
  unfold scrub_Strays_B1 at hB1
  refine sg ?_
  refine wT [(1, .s (mC p_l)), (5, .o 35), (11, .s (mB p_disks)), (12, vi (p_disks.length : Int)), (13, vi s1.1), (14, vb (decide (s1.1 < (p_disks.length : Int))))] [(35, .own 50 3 (mD s1.2))] Q6 J1 rfl ?_
  refine sq ?_
  refine cn 14 (decide (s1.1 < (p_disks.length : Int))) rfl hB1 (fun hb hB1 => ?_) fun hb hB1 => ?_
  ·refine sk ?_
   obtain ⟨v2, hv2, hB1⟩ := bindS hB1
   refine Ok.seqw ⟨Cat.tab [(1, .s (mC p_l)), (5, .o 35), (11, .s (mB p_disks)), (12, vi (p_disks.length : Int)), (13, vi s1.1)], [(35, .own 50 3 (mD v2))]⟩ ?_ ?_
   ·refine bl ?_
    refine sg ?_
    obtain ⟨x1, hx1, hv2⟩ := bindS hv2
    refine ⟨_, idx_nat hx1, _, idx_row hx1, _, rfl, _, rfl, _, rfl, ?_⟩
    refine wT [(1, .s (mC p_l)), (5, .o 35), (6, .b 6 0), (7, .b 7 0), (11, .s (mB p_disks)), (12, vi (p_disks.length : Int)), (13, vi s1.1)] [(35, .own 50 3 (mD s1.2)), (6, .box [vi s1.1]), (7, .box [.s (mU x1.Synced), .s (mU x1.Loose), vb x1.Down])] Q7 J3 rfl ?_
    refine sg ?_
    obtain ⟨x2, hx2, hv2⟩ := bindS hv2
    refine ⟨_, rfl, ?_⟩
    refine CallOk.call (w_chunk_Has hx2) (LeL.refl _) ?_
    refine ⟨_, List.length_map _, fun _ => ?_⟩
    refine wT [(1, .s (mC p_l)), (5, .o 35), (6, .b 6 0), (11, .s (mB p_disks)), (12, vi (p_disks.length : Int)), (13, vi s1.1), (19, .s (mI x2)), (20, vi (x2.length : Int)), (21, vi (0))] [(35, .own 50 3 (mD s1.2)), (6, .box [vi s1.1])] ⟨lr, Q8⟩ J2 rfl ?_
    refine bl ?_
    refine Ok.loop (fun (s2 : Int × (List api_Find)) => ⟨Cat.tab [(1, .s (mC p_l)), (5, .o 35), (6, .b 6 0), (11, .s (mB p_disks)), (12, vi (p_disks.length : Int)), (13, vi s1.1), (19, .s (mI x2)), (20, vi (x2.length : Int)), (21, vi s2.1)], [(35, .own 50 3 (mD s2.2)), (6, .box [vi s1.1])]⟩) (scrub_Strays_B2 x2 p_l s1) (s0 := (0, s1.2)) hv2 (wt ⟨lr, Q8⟩ ⟨⟨_, rfl, .refl _⟩, ⟨_, rfl, .refl _⟩, Q0⟩ rfl) ?_
    intro s2 y2 hB2 hy2
    unfold scrub_Strays_B2 at hB2
    refine sg ?_
    refine wT [(1, .s (mC p_l)), (5, .o 35), (6, .b 6 0), (11, .s (mB p_disks)), (12, vi (p_disks.length : Int)), (13, vi s1.1), (19, .s (mI x2)), (20, vi (x2.length : Int)), (21, vi s2.1), (22, vb (decide (s2.1 < (x2.length : Int))))] [(35, .own 50 3 (mD s2.2)), (6, .box [vi s1.1])] ⟨lr, lr, Q8⟩ J2 rfl ?_
    refine sq ?_
    refine cn 22 (decide (s2.1 < (x2.length : Int))) rfl hB2 (fun hb hB2 => ?_) fun hb hB2 => ?_
    ·refine sk ?_
     obtain ⟨v3, hv3, hB2⟩ := bindS hB2
     refine Ok.seqw ⟨Cat.tab [(1, .s (mC p_l)), (5, .o 35), (6, .b 6 0), (11, .s (mB p_disks)), (12, vi (p_disks.length : Int)), (13, vi s1.1), (19, .s (mI x2)), (20, vi (x2.length : Int)), (21, vi s2.1)], [(35, .own 50 3 (mD v3)), (6, .box [vi s1.1])]⟩ ?_ ?_
     ·refine bl ?_
      refine sg ?_
      obtain ⟨x3, hx3, hv3⟩ := bindS hv3
      refine ⟨_, idx_nat hx3, _, idx_row hx3, _, rfl, _, rfl, ?_⟩
      refine wT [(1, .s (mC p_l)), (5, .o 35), (6, .b 6 0), (9, .b 9 0), (11, .s (mB p_disks)), (12, vi (p_disks.length : Int)), (13, vi s1.1), (19, .s (mI x2)), (20, vi (x2.length : Int)), (21, vi s2.1)] [(35, .own 50 3 (mD s2.2)), (6, .box [vi s1.1]), (9, .box [vi x3])] ⟨lr, lr, Q8⟩ J3 rfl ?_
      refine sg ?_
      refine wT [(1, .s (mC p_l)), (5, .o 35), (6, .b 6 0), (9, .b 9 0), (10, .c (.func 50) [] [.b 9 0, .b 6 0]), (11, .s (mB p_disks)), (12, vi (p_disks.length : Int)), (13, vi s1.1), (19, .s (mI x2)), (20, vi (x2.length : Int)), (21, vi s2.1)] [(35, .own 50 3 (mD s2.2)), (6, .box [vi s1.1]), (9, .box [vi x3])] ⟨lr, lr, lr, Q8⟩ J3 rfl ?_
      refine sg ?_
      obtain ⟨x4, hx4, hv3⟩ := bindS hv3
      refine CallOk.borrow (w_slices_ContainsFunc_api_Chain_api_Chain__scrub_Strays_1 hx4) (.cons Fz.s (.cons (Fz.c .nil (.cons (Fz.b rfl rfl) (.cons (Fz.b rfl rfl) .nil))) (.nil))) rfl ?_
      refine wT [(1, .s (mC p_l)), (5, .o 35), (6, .b 6 0), (9, .b 9 0), (11, .s (mB p_disks)), (12, vi (p_disks.length : Int)), (13, vi s1.1), (19, .s (mI x2)), (20, vi (x2.length : Int)), (21, vi s2.1), (29, vb (!x4))] [(35, .own 50 3 (mD s2.2)), (6, .box [vi s1.1]), (9, .box [vi x3])] ⟨lr, lr, lr, Q8⟩ J3 rfl ?_
      refine cn 29 (!x4) rfl hv3 (fun hb hv3 => ?_) fun hb hv3 => ?_
      ·refine rg ?_
       obtain ⟨hc1, hv3⟩ := chk_some hv3
       refine ⟨_, rfl, _, rfl, Or.inl ⟨rowsLen_map (f := c_api_Find) (n := 3) (fun _ => rfl) ([(⟨x3, s1.1, 6⟩ : api_Find)]), app_b2 (f := c_api_Find) (l := s2.2) (l' := [(⟨x3, s1.1, 6⟩ : api_Find)]) hc1, _, (List.map_append (f := c_api_Find) (l₁ := s2.2) (l₂ := [(⟨x3, s1.1, 6⟩ : api_Find)])).symm, ?_⟩⟩
       cases hv3
       exact wt ⟨lr, Q8⟩ J2 rfl
      refine sk ?_
      cases hv3
      exact wt ⟨lr, Q8⟩ J2 rfl
     refine rg ?_
     obtain ⟨hc2, hB2⟩ := chk_some hB2
     refine (Or.inl ⟨hc2, ?_⟩)
     exact ⟨_, sj hB2, wt ⟨lr, Q8⟩ J2 rfl⟩
    refine xt ?_
    have hB2 := out_ret hB2 hy2
    cases hB2
    exact wt Q5 J1 rfl
   refine rg ?_
   obtain ⟨hc3, hB1⟩ := chk_some hB1
   refine (Or.inl ⟨hc3, ?_⟩)
   exact ⟨_, sj hB1, wt Q5 J1 rfl⟩
  refine xt ?_
  have hB1 := out_ret hB1 hy1
  cases hB1
  exact wt Q1 J1 rfl
 refine sg ?_
 refine wT [(4, .o 35)] [(35, .own 50 3 (mD v1))] Q1 J1 rfl ?_
 refine rt ?_
 cases h
 exact (.inr ⟨_, rfl, rfl⟩)
theorem w_scrub_Strays {p_disks} {p_l} {r} (h : scrub_Strays p_disks p_l = some r) : Pure Tryz.prog 21 [(.s (mB p_disks)), (.s (mC p_l))] (.s (mD r)) := (wo_scrub_Strays h).pure
theorem w_law27_head [Off] {r} (h : law27_head = some r) : Pure Tryz.prog 4 [] (vb r) := by
 refine po Tryz.tok 150 Tryz.func4 (by kernel_rfl) rfl rfl rfl ?_
 unfold law27_head at h
 refine wE [] Q0 ?_
 refine sg ?_
 refine wE [] Q0 ?_
 refine sg ?_
 obtain ⟨x1, hx1, h⟩ := bindS h
 refine CallOk.call (w_disk_New hx1) (LeL.refl _) ?_
 obtain ⟨x2, hx2, h⟩ := bindS h
 refine Or.inr ⟨(fun h => by cases h), ?_⟩
 refine CallOk.call (w_chunk_New hx2) (LeL.refl _) ?_
 obtain ⟨x3, hx3, h⟩ := bindS h
 refine CallOk.call (w_law27_on hx3) (LeL.refl _) ?_
 refine ⟨_, rfl, ?_⟩
 refine wT [(1, .b 1 0)] [(1, .box [.s (mU x3.Synced), .s (mU x3.Loose), vb x3.Down])] Q1 J1 rfl ?_
 refine sg ?_
 obtain ⟨x4, hx4, h⟩ := bindS h
 refine CallOk.call (w_disk_New hx4) (LeL.refl _) ?_
 obtain ⟨x5, hx5, h⟩ := bindS h
 refine Or.inr ⟨(fun h => by cases h), ?_⟩
 refine CallOk.call (w_chunk_New hx5) (LeL.refl _) ?_
 obtain ⟨x6, hx6, h⟩ := bindS h
 refine CallOk.call (w_law27_on hx6) (LeL.refl _) ?_
 refine ⟨_, rfl, ?_⟩
 refine wT [(1, .b 1 0), (2, .b 2 0)] [(1, .box [.s (mU x3.Synced), .s (mU x3.Loose), vb x3.Down]), (2, .box [.s (mU x6.Synced), .s (mU x6.Loose), vb x6.Down])] Q2 J2 rfl ?_
 refine sg ?_
 obtain ⟨x7, hx7, h⟩ := bindS h
 refine ⟨_, rfl, ?_⟩
 refine CallOk.call (w_disk_Crash hx7) (LeL.refl _) ?_
 refine ⟨_, rfl, ?_⟩
 refine wT [(1, .b 1 0), (2, .b 2 0), (3, .b 3 0)] [(1, .box [.s (mU x3.Synced), .s (mU x3.Loose), vb x3.Down]), (2, .box [.s (mU x6.Synced), .s (mU x6.Loose), vb x6.Down]), (3, .box [.s (mU x7.Synced), .s (mU x7.Loose), vb x7.Down])] Q3 J3 rfl ?_
 refine sq ?_
 refine Ok.draw (m := 7) (MD := ⟨[]⟩) (CH := ⟨[]⟩) Tryz.tok Tryz.mixed (by kernel_rfl) ?_
 obtain ⟨x8, hx8, h⟩ := bindS h
 refine ⟨_, ⟨_, .of_pure (w_disk_New hx8) (LeL.refl _), rfl⟩, _, ⟨_, rfl, rfl⟩, _, ⟨_, rfl, rfl⟩, _, ⟨_, rfl, rfl⟩, _, ⟨_, rfl, rfl⟩, _, rfl, _, rfl, Q0, ?_⟩
 refine wE [(4, .s (mB ([x8, x3, x6, x7, x3])))] Q1 ?_
 refine sg ?_
 refine Or.inl ⟨_, rfl, ?_⟩
 refine wT [(4, .s (mB ([x8, x3, x6, x7, x3]))), (5, .b 5 0)] [(5, .box [vi (4), vi (2), .s (mI ([0, 1, 2, 3, 9]))])] Q2 J1 rfl ?_
 refine sg ?_
 obtain ⟨x9, hx9, h⟩ := bindS h
 refine ⟨_, rfl, ?_⟩
 refine CallOk.call (w_scrub_Look hx9) (LeL.refl _) ?_
 refine wT [(4, .s (mB ([x8, x3, x6, x7, x3]))), (5, .b 5 0), (6, .s (mD x9))] [(5, .box [vi (4), vi (2), .s (mI ([0, 1, 2, 3, 9]))])] Q3 J1 rfl ?_
 refine sg ?_
 obtain ⟨x10, hx10, h⟩ := bindS h
 refine ⟨_, rfl, Or.inl (Or.inl ?_)⟩
 refine CallOk.call (w_scrub_Plan hx10) (LeL.refl _) ?_
 refine wT [(4, .s (mB ([x8, x3, x6, x7, x3]))), (5, .b 5 0), (6, .s (mD x9)), (7, .s (mE x10.1)), (8, .s (mI x10.2))] [(5, .box [vi (4), vi (2), .s (mI ([0, 1, 2, 3, 9]))])] Q5 J1 rfl ?_
 refine sg ?_
 obtain ⟨x11, hx11, h⟩ := bindS h
 refine CallOk.call (w_scrub_Copy hx11) (LeL.refl _) ?_
 refine wT [(4, .s (mB ([x8, x3, x6, x7, x3]))), (5, .b 5 0), (6, .s (mD x9)), (7, .s (mE x10.1)), (8, .s (mI x10.2)), (9, .s (mB x11.1)), (10, vi x11.2)] [(5, .box [vi (4), vi (2), .s (mI ([0, 1, 2, 3, 9]))])] Q7 J1 rfl ?_
 refine sg ?_
 obtain ⟨x12, hx12, h⟩ := bindS h
 refine CallOk.call (w_scrub_Copy hx12) (LeL.refl _) ?_
 refine wT [(4, .s (mB ([x8, x3, x6, x7, x3]))), (5, .b 5 0), (6, .s (mD x9)), (7, .s (mE x10.1)), (8, .s (mI x10.2)), (9, .s (mB x11.1)), (10, vi x11.2), (12, vi x12.2)] [(5, .box [vi (4), vi (2), .s (mI ([0, 1, 2, 3, 9]))])] Q8 J1 rfl ?_
 refine sg ?_
 obtain ⟨x13, hx13, h⟩ := bindS h
 refine CallOk.call (w_scrub_Clean hx13) (LeL.refl _) ?_
 refine wT [(4, .s (mB ([x8, x3, x6, x7, x3]))), (5, .b 5 0), (6, .s (mD x9)), (7, .s (mE x10.1)), (8, .s (mI x10.2)), (9, .s (mB x11.1)), (10, vi x11.2), (12, vi x12.2), (14, vi x13.2)] [(5, .box [vi (4), vi (2), .s (mI ([0, 1, 2, 3, 9]))])] ⟨lr, Q8⟩ J1 rfl ?_
 refine sg ?_
 obtain ⟨x14, hx14, h⟩ := bindS h
 refine CallOk.call (w_scrub_Clean hx14) (LeL.refl _) ?_
 refine wT [(4, .s (mB ([x8, x3, x6, x7, x3]))), (5, .b 5 0), (6, .s (mD x9)), (7, .s (mE x10.1)), (8, .s (mI x10.2)), (9, .s (mB x11.1)), (10, vi x11.2), (12, vi x12.2), (14, vi x13.2), (15, .s (mB x14.1)), (16, vi x14.2)] [(5, .box [vi (4), vi (2), .s (mI ([0, 1, 2, 3, 9]))])] ⟨lr, lr, lr, Q8⟩ J1 rfl ?_
 refine sq ?_
 obtain ⟨v1, hv1, h⟩ := bindS h
 refine Ok.seqw ⟨Cat.tab [(4, .s (mB ([x8, x3, x6, x7, x3]))), (5, .b 5 0), (7, .s (mE x10.1)), (8, .s (mI x10.2)), (9, .s (mB x11.1)), (12, vi x12.2), (14, vi x13.2), (15, .s (mB x14.1)), (88, vb v1)], [(5, .box [vi (4), vi (2), .s (mI ([0, 1, 2, 3, 9]))])]⟩ ?_ ?_
 ·refine rg ?_
  obtain ⟨x15, hx15, hv1⟩ := bindS hv1
  refine Or.inl ?_
  refine CallOk.call (w_ref27_SameFinds hx15) (LeL.refl _) ?_
  obtain ⟨c1, hg1, hv1⟩ := bindS hv1
  refine Br.itf hg1 (fun hb hg1 => ?_) fun hb hg1 => ?_
  ·cases hg1
   obtain ⟨c2, hg2, hv1⟩ := bindS hv1
   replace hg2 := iteT hg2
   cases hg2
   cases hv1
   exact wt ⟨lr, Q8⟩ J1 rfl
  cases hg1
  obtain ⟨c2, hg3, hv1⟩ := bindS hv1
  refine Br.itf hg3 (fun hb hg3 => ?_) fun hb hg3 => ?_
  ·cases hg3
   cases hv1
   exact wt ⟨lr, Q8⟩ J1 rfl
  cases hg3
  cases hv1
  exact wt ⟨lr, Q8⟩ J1 rfl
 refine cn 88 (v1) rfl h (fun hb h => ?_) fun hb h => ?_
 ·refine sg ?_
  refine wE [(0, vb false)] Q1 ?_
  refine rt ?_
  cases h
  exact Fz.v
 refine sk ?_
 obtain ⟨v2, hv2, h⟩ := bindS h
 refine Ok.seqw ⟨Cat.tab [(0, vb v2)], []⟩ ?_ ?_
 ·refine rg ?_
  obtain ⟨x16, hx16, hv2⟩ := bindS hv2
  refine ⟨_, rfl, Or.inl ?_⟩
  refine CallOk.norm (L := [(4, .s (mB ([x8, x3, x6, x7, x3]))), (5, .b 5 0), (7, .s (mE x10.1)), (8, .s (mI x10.2)), (9, .s (mB x11.1)), (12, vi x12.2), (14, vi x13.2), (15, .s (mB x14.1)), (90, .s (mC ([(⟨4, 2, [0, 1, 2, 3, 9]⟩ : api_Chain)])))]) (H' := [(5, .box [vi (4), vi (2), .s (mI ([0, 1, 2, 3, 9]))])]) (LeL.refl _) ⟨lr, Q8⟩ ⟨⟨_, rfl, .refl _⟩, Q0⟩ rfl (CallOk.call (w_scrub_Right hx16) (LeL.refl _) ?_)
  obtain ⟨c3, hg4, hv2⟩ := bindS hv2
  refine Br.ite hg4 (fun hb hg4 => ?_) fun hb hg4 => ?_
  ·obtain ⟨x17, hx17, hg4⟩ := bindS hg4
   refine ⟨_, rfl, _, rfl, Or.inl ?_⟩
   refine CallOk.norm (L := [(4, .s (mB ([x8, x3, x6, x7, x3]))), (5, .b 5 0), (7, .s (mE x10.1)), (8, .s (mI x10.2)), (9, .s (mB x11.1)), (12, vi x12.2), (14, vi x13.2), (15, .s (mB x14.1)), (92, .v (.bool true)), (95, .s (mC ([(⟨4, 2, [0, 1, 2, 3, 9]⟩ : api_Chain), (⟨4, 2, [0, 1, 2, 3, 9]⟩ : api_Chain)])))]) (H' := [(5, .box [vi (4), vi (2), .s (mI ([0, 1, 2, 3, 9]))])]) (LeL.refl _) ⟨lr, lr, Q8⟩ ⟨⟨_, rfl, .refl _⟩, Q0⟩ rfl (CallOk.call (w_scrub_Right hx17) (LeL.refl _) ?_)
   cases hg4
   obtain ⟨c4, hg5, hv2⟩ := bindS hv2
   refine Br.ite hg5 (fun hb hg5 => ?_) fun hb hg5 => ?_
   ·obtain ⟨x18, hx18, hg5⟩ := bindS hg5
    refine ⟨_, rfl, ?_⟩
    refine CallOk.norm (L := [(4, .s (mB ([x8, x3, x6, x7, x3]))), (5, .b 5 0), (7, .s (mE x10.1)), (8, .s (mI x10.2)), (9, .s (mB x11.1)), (12, vi x12.2), (14, vi x13.2), (15, .s (mB x14.1)), (99, .v (.bool true)), (100, .s (mB ([x8, x3, x6, x7, x3]))), (101, .a [vi (4), vi (2), .s (mI ([0, 1, 2, 3, 9]))])]) (H' := [(5, .box [vi (4), vi (2), .s (mI ([0, 1, 2, 3, 9]))])]) (LeL.refl _) ⟨lr, lr, lr, Q8⟩ ⟨⟨_, rfl, .refl _⟩, Q0⟩ rfl (CallOk.call (w_scrub_Intact hx18) (LeL.refl _) ?_)
    obtain ⟨x19, hx19, hg5⟩ := bindS hg5
    refine Or.inl ?_
    refine CallOk.norm (L := [(4, .s (mB ([x8, x3, x6, x7, x3]))), (5, .b 5 0), (7, .s (mE x10.1)), (8, .s (mI x10.2)), (9, .s (mB x11.1)), (12, vi x12.2), (14, vi x13.2), (15, .s (mB x14.1)), (99, .v (.bool true)), (102, .s (mI x18)), (103, .s (mI ([1])))]) (H' := [(5, .box [vi (4), vi (2), .s (mI ([0, 1, 2, 3, 9]))])]) (LeL.refl _) ⟨lr, lr, lr, Q8⟩ ⟨⟨_, rfl, .refl _⟩, Q0⟩ rfl (CallOk.call (w_ref02_Ints hx19) (LeL.refl _) ?_)
    cases hg5
    obtain ⟨c5, hg6, hv2⟩ := bindS hv2
    refine Br.ite hg6 (fun hb hg6 => ?_) fun hb hg6 => ?_
    ·obtain ⟨x20, hx20, hg6⟩ := bindS hg6
     refine Or.inl ?_
     refine CallOk.norm (L := [(4, .s (mB ([x8, x3, x6, x7, x3]))), (5, .b 5 0), (8, .s (mI x10.2)), (9, .s (mB x11.1)), (12, vi x12.2), (14, vi x13.2), (15, .s (mB x14.1)), (106, .v (.bool true)), (107, .s (mE x10.1)), (110, .s (mE ([(⟨4, 2, 1, 0, 1, 3⟩ : api_Job), (⟨4, 2, 1, 2, 1, 3⟩ : api_Job)])))]) (H' := [(5, .box [vi (4), vi (2), .s (mI ([0, 1, 2, 3, 9]))])]) (LeL.refl _) ⟨lr, lr, Q8⟩ ⟨⟨_, rfl, .refl _⟩, Q0⟩ rfl (CallOk.call (w_ref27_SameJobs hx20) (LeL.refl _) ?_)
     cases hg6
     obtain ⟨c6, hg7, hv2⟩ := bindS hv2
     refine Br.ite hg7 (fun hb hg7 => ?_) fun hb hg7 => ?_
     ·obtain ⟨x21, hx21, hg7⟩ := bindS hg7
      refine Or.inl ?_
      refine CallOk.norm (L := [(4, .s (mB ([x8, x3, x6, x7, x3]))), (5, .b 5 0), (9, .s (mB x11.1)), (12, vi x12.2), (14, vi x13.2), (15, .s (mB x14.1)), (113, .v (.bool true)), (114, .s (mI x10.2)), (115, .s (mI ([7])))]) (H' := [(5, .box [vi (4), vi (2), .s (mI ([0, 1, 2, 3, 9]))])]) (LeL.refl _) ⟨lr, Q8⟩ ⟨⟨_, rfl, .refl _⟩, Q0⟩ rfl (CallOk.call (w_ref02_Ints hx21) (LeL.refl _) ?_)
      cases hg7
      obtain ⟨c7, hg8, hv2⟩ := bindS hv2
      refine Br.ite hg8 (fun hb hg8 => ?_) fun hb hg8 => ?_
      ·obtain ⟨x22, hx22, hg8⟩ := bindS hg8
       refine ⟨_, rfl, Or.inl ?_⟩
       refine CallOk.norm (L := [(5, .b 5 0), (9, .s (mB x11.1)), (12, vi x12.2), (14, vi x13.2), (15, .s (mB x14.1)), (118, .v (.bool true)), (119, .s (mB ([x8, x3, x6, x7, x3]))), (121, .s (mC ([(⟨4, 2, [0, 1, 2, 3, 9]⟩ : api_Chain)])))]) (H' := [(5, .box [vi (4), vi (2), .s (mI ([0, 1, 2, 3, 9]))])]) (LeL.refl _) Q8 ⟨⟨_, rfl, .refl _⟩, Q0⟩ rfl (CallOk.call (w_scrub_Strays hx22) (LeL.refl _) ?_)
       obtain ⟨x23, hx23, hg8⟩ := bindS hg8
       refine Or.inl ?_
       refine CallOk.norm (L := [(5, .b 5 0), (9, .s (mB x11.1)), (12, vi x12.2), (14, vi x13.2), (15, .s (mB x14.1)), (118, .v (.bool true)), (122, .s (mD x22)), (124, .s (mD ([(⟨4, 4, 6⟩ : api_Find)])))]) (H' := [(5, .box [vi (4), vi (2), .s (mI ([0, 1, 2, 3, 9]))])]) (LeL.refl _) Q8 ⟨⟨_, rfl, .refl _⟩, Q0⟩ rfl (CallOk.call (w_ref27_SameFinds hx23) (LeL.refl _) ?_)
       cases hg8
       obtain ⟨c8, hg9, hv2⟩ := bindS hv2
       refine Br.ite hg9 (fun hb hg9 => ?_) fun hb hg9 => ?_
       ·obtain ⟨x24, hx24, hg9⟩ := bindS hg9
        refine ⟨_, rfl, ?_⟩
        refine CallOk.norm (L := [(5, .b 5 0), (12, vi x12.2), (14, vi x13.2), (15, .s (mB x14.1)), (127, .v (.bool true)), (128, .s (mB x11.1)), (129, .a [vi (4), vi (2), .s (mI ([0, 1, 2, 3, 9]))])]) (H' := [(5, .box [vi (4), vi (2), .s (mI ([0, 1, 2, 3, 9]))])]) (LeL.refl _) Q7 ⟨⟨_, rfl, .refl _⟩, Q0⟩ rfl (CallOk.call (w_scrub_Intact hx24) (LeL.refl _) ?_)
        obtain ⟨x25, hx25, hg9⟩ := bindS hg9
        refine Or.inl ?_
        refine CallOk.norm (L := [(5, .b 5 0), (12, vi x12.2), (14, vi x13.2), (15, .s (mB x14.1)), (127, .v (.bool true)), (130, .s (mI x24)), (131, .s (mI ([0, 1])))]) (H' := [(5, .box [vi (4), vi (2), .s (mI ([0, 1, 2, 3, 9]))])]) (LeL.refl _) Q7 ⟨⟨_, rfl, .refl _⟩, Q0⟩ rfl (CallOk.call (w_ref02_Ints hx25) (LeL.refl _) ?_)
        cases hg9
        obtain ⟨c9, hg10, hv2⟩ := bindS hv2
        refine Br.ite hg10 (fun hb hg10 => ?_) fun hb hg10 => ?_
        ·cases hg10
         obtain ⟨c10, hg11, hv2⟩ := bindS hv2
         refine Br.ite hg11 (fun hb hg11 => ?_) fun hb hg11 => ?_
         ·cases hg11
          obtain ⟨c11, hg12, hv2⟩ := bindS hv2
          refine Br.ite hg12 (fun hb hg12 => ?_) fun hb hg12 => ?_
          ·obtain ⟨x26, hx26, hg12⟩ := bindS hg12
           refine ⟨_, rfl, Or.inl ?_⟩
           refine CallOk.norm (L := [(142, .v (.bool true)), (143, .s (mB x14.1)), (145, .s (mC ([(⟨4, 2, [0, 1, 2, 3, 9]⟩ : api_Chain)])))]) (H' := []) (LeL.refl _) Q3 Q0 rfl (CallOk.call (w_scrub_Strays hx26) (LeL.refl _) ?_)
           refine ⟨_, List.length_map _, fun _ => ?_⟩
           cases hg12
           cases hv2
           exact wt Q1 Q0 rfl
          cases hg12
          cases hv2
          exact wt Q1 Q0 rfl
         cases hg11
         obtain ⟨c11, hg13, hv2⟩ := bindS hv2
         replace hg13 := iteF hg13
         cases hg13
         cases hv2
         exact wt Q1 Q0 rfl
        cases hg10
        obtain ⟨c10, hg14, hv2⟩ := bindS hv2
        replace hg14 := iteF hg14
        cases hg14
        obtain ⟨c11, hg15, hv2⟩ := bindS hv2
        replace hg15 := iteF hg15
        cases hg15
        cases hv2
        exact wt Q1 Q0 rfl
       cases hg9
       obtain ⟨c9, hg16, hv2⟩ := bindS hv2
       replace hg16 := iteF hg16
       cases hg16
       obtain ⟨c10, hg17, hv2⟩ := bindS hv2
       replace hg17 := iteF hg17
       cases hg17
       obtain ⟨c11, hg18, hv2⟩ := bindS hv2
       replace hg18 := iteF hg18
       cases hg18
       cases hv2
       exact wt Q1 Q0 rfl
      cases hg8
      obtain ⟨c8, hg19, hv2⟩ := bindS hv2
      replace hg19 := iteF hg19
      cases hg19
      obtain ⟨c9, hg20, hv2⟩ := bindS hv2
      replace hg20 := iteF hg20
      cases hg20
      obtain ⟨c10, hg21, hv2⟩ := bindS hv2
      replace hg21 := iteF hg21
      cases hg21
      obtain ⟨c11, hg22, hv2⟩ := bindS hv2
      replace hg22 := iteF hg22
      cases hg22
      cases hv2
      exact wt Q1 Q0 rfl
     cases hg7
     obtain ⟨c7, hg23, hv2⟩ := bindS hv2
     replace hg23 := iteF hg23
     cases hg23
     obtain ⟨c8, hg24, hv2⟩ := bindS hv2
     replace hg24 := iteF hg24
     cases hg24
     obtain ⟨c9, hg25, hv2⟩ := bindS hv2
     replace hg25 := iteF hg25
     cases hg25
     obtain ⟨c10, hg26, hv2⟩ := bindS hv2
     replace hg26 := iteF hg26
     cases hg26
     obtain ⟨c11, hg27, hv2⟩ := bindS hv2
     replace hg27 := iteF hg27
     cases hg27
     cases hv2
     exact wt Q1 Q0 rfl
    cases hg6
    obtain ⟨c6, hg28, hv2⟩ := bindS hv2
    replace hg28 := iteF hg28
    cases hg28
    obtain ⟨c7, hg29, hv2⟩ := bindS hv2
    replace hg29 := iteF hg29
    cases hg29
    obtain ⟨c8, hg30, hv2⟩ := bindS hv2
    replace hg30 := iteF hg30
    cases hg30
    obtain ⟨c9, hg31, hv2⟩ := bindS hv2
    replace hg31 := iteF hg31
    cases hg31
    obtain ⟨c10, hg32, hv2⟩ := bindS hv2
    replace hg32 := iteF hg32
    cases hg32
    obtain ⟨c11, hg33, hv2⟩ := bindS hv2
    replace hg33 := iteF hg33
    cases hg33
    cases hv2
    exact wt Q1 Q0 rfl
   cases hg5
   obtain ⟨c5, hg34, hv2⟩ := bindS hv2
   replace hg34 := iteF hg34
   cases hg34
   obtain ⟨c6, hg35, hv2⟩ := bindS hv2
   replace hg35 := iteF hg35
   cases hg35
   obtain ⟨c7, hg36, hv2⟩ := bindS hv2
   replace hg36 := iteF hg36
   cases hg36
   obtain ⟨c8, hg37, hv2⟩ := bindS hv2
   replace hg37 := iteF hg37
   cases hg37
   obtain ⟨c9, hg38, hv2⟩ := bindS hv2
   replace hg38 := iteF hg38
   cases hg38
   obtain ⟨c10, hg39, hv2⟩ := bindS hv2
   replace hg39 := iteF hg39
   cases hg39
   obtain ⟨c11, hg40, hv2⟩ := bindS hv2
   replace hg40 := iteF hg40
   cases hg40
   cases hv2
   exact wt Q1 Q0 rfl
  cases hg4
  obtain ⟨c4, hg41, hv2⟩ := bindS hv2
  replace hg41 := iteF hg41
  cases hg41
  obtain ⟨c5, hg42, hv2⟩ := bindS hv2
  replace hg42 := iteF hg42
  cases hg42
  obtain ⟨c6, hg43, hv2⟩ := bindS hv2
  replace hg43 := iteF hg43
  cases hg43
  obtain ⟨c7, hg44, hv2⟩ := bindS hv2
  replace hg44 := iteF hg44
  cases hg44
  obtain ⟨c8, hg45, hv2⟩ := bindS hv2
  replace hg45 := iteF hg45
  cases hg45
  obtain ⟨c9, hg46, hv2⟩ := bindS hv2
  replace hg46 := iteF hg46
  cases hg46
  obtain ⟨c10, hg47, hv2⟩ := bindS hv2
  replace hg47 := iteF hg47
  cases hg47
  obtain ⟨c11, hg48, hv2⟩ := bindS hv2
  replace hg48 := iteF hg48
  cases hg48
  cases hv2
  exact wt Q1 Q0 rfl
 refine rt ?_
 cases h
 exact Fz.v
theorem w_disk_Rot_1 {p_p} {p_a1_0} {r} (h : disk_Rot_1 p_p p_a1_0 = some r) : Pure Tryz.prog 33 [(.a [(vi p_p.At), (.s (mA p_p.Data))]), (.p [(vi p_a1_0)])] (vb r) := by
 refine po Tryz.tok 8 Tryz.func33 (by kernel_rfl) rfl rfl rfl ?_
 unfold disk_Rot_1 at h
 refine wE [(0, .a [vi p_p.At, .s (mA p_p.Data)]), (1, .p [vi p_a1_0])] Q2 ?_
 refine sg ?_
 refine wT [(1, .p [vi p_a1_0]), (2, .b 2 0)] [(2, .box [vi p_p.At, .s (mA p_p.Data)])] Q2 J1 rfl ?_
 refine sg ?_
 refine ⟨_, rfl, _, rfl, ?_⟩
 refine wE [(3, vb (p_p.At == p_a1_0))] Q1 ?_
 refine rt ?_
 cases h
 exact Fz.v
theorem w_slices_IndexFunc_api_Page_api_Page__disk_Rot_1 {p_s} {p_f_c0_0} {r} (h : slices_IndexFunc_api_Page_api_Page__disk_Rot_1 p_s p_f_c0_0 = some r) : Pure Tryz.prog 61 [(.s (mU p_s)), (.c (.func 33) [] [(.p [(vi p_f_c0_0)])])] (vi r) := by
 refine po Tryz.tok 19 Tryz.func61 (by kernel_rfl) rfl rfl rfl ?_
 unfold slices_IndexFunc_api_Page_api_Page__disk_Rot_1 at h
 refine wE [(0, .s (mU p_s)), (1, .c (.func 33) [] [.p [vi p_f_c0_0]])] Q2 ?_
 refine sg ?_
 refine wE [(0, .s (mU p_s)), (1, .c (.func 33) [] [.p [vi p_f_c0_0]])] Q2 ?_
 refine Ok.seqj (fun v1 => ⟨Cat.tab [], []⟩) (fun v1 => slices_IndexFunc_api_Page_api_Page__disk_Rot_1_J1 v1 = some r) ?_ ?_
 ·refine sg ?_
  refine ⟨_, List.length_map _, fun _ => ?_⟩
  refine wE [(0, .s (mU p_s)), (1, .c (.func 33) [] [.p [vi p_f_c0_0]]), (7, vi (p_s.length : Int)), (8, vi (0))] Q4 ?_
  refine bl ?_
  refine Ok.loop (fun (s1 : Int) => ⟨Cat.tab [(0, .s (mU p_s)), (1, .c (.func 33) [] [.p [vi p_f_c0_0]]), (7, vi (p_s.length : Int)), (8, vi s1)], []⟩) (slices_IndexFunc_api_Page_api_Page__disk_Rot_1_B1 p_s p_f_c0_0) (s0 := 0) h (wt Q4 Q0 rfl) ?_
  intro s1 y1 hB1 hy1
  unfold slices_IndexFunc_api_Page_api_Page__disk_Rot_1_B1 at hB1
  refine sg ?_
  refine wE [(0, .s (mU p_s)), (1, .c (.func 33) [] [.p [vi p_f_c0_0]]), (7, vi (p_s.length : Int)), (8, vi s1), (9, vb (decide (s1 < (p_s.length : Int))))] Q5 ?_
  refine sq ?_
  refine cn 9 (decide (s1 < (p_s.length : Int))) rfl hB1 (fun hb hB1 => ?_) fun hb hB1 => ?_
  ·refine sk ?_
   refine sq ?_
   refine bl ?_
   refine sg ?_
   refine wE [(0, .s (mU p_s)), (1, .c (.func 33) [] [.p [vi p_f_c0_0]]), (5, vi s1), (7, vi (p_s.length : Int)), (8, vi s1)] Q5 ?_
   refine sg ?_
   obtain ⟨x1, hx1, hB1⟩ := bindS hB1
   obtain ⟨x2, hx2, hB1⟩ := bindS hB1
   refine ⟨_, idx_nat hx1, _, idx_row hx1, _, rfl, ?_⟩
   refine CallOk.call (w_disk_Rot_1 hx2) (LeL.refl _) ?_
   refine wE [(0, .s (mU p_s)), (1, .c (.func 33) [] [.p [vi p_f_c0_0]]), (5, vi s1), (7, vi (p_s.length : Int)), (8, vi s1), (16, vb x2)] Q6 ?_
   refine cn 16 (x2) rfl hB1 (fun hb hB1 => ?_) fun hb hB1 => ?_
   ·refine sg ?_
    refine wE [(4, vi s1)] Q1 ?_
    refine rt ?_
    have hB1 := out_ret hB1 hy1
    cases hB1
    exact Fz.v
   refine sk ?_
   refine rg ?_
   obtain ⟨hc1, hB1⟩ := chk_some hB1
   refine (Or.inl ⟨hc1, ?_⟩)
   exact ⟨_, sj hB1, wt Q4 Q0 rfl⟩
  refine xt ?_
  have hB1 := out_ret hB1 hy1
  exact ⟨_, hB1, wt Q0 Q0 rfl⟩
 intro v1 h
 unfold slices_IndexFunc_api_Page_api_Page__disk_Rot_1_J1 at h
 refine sg ?_
 refine wE [(4, vi (-1))] Q1 ?_
 refine rt ?_
 cases h
 exact Fz.v
theorem w_disk_find_api_Page__disk_Rot_1 {p_l} {p_is_c0} {r} (h : disk_find_api_Page__disk_Rot_1 p_l p_is_c0 = some r) : Pure Tryz.prog 30 [(.s (mU p_l)), (.c (.func 33) [] [(.p [(vi p_is_c0)])])] (vi r) := by
 refine po Tryz.tok 8 Tryz.func30 (by kernel_rfl) rfl rfl rfl ?_
 unfold disk_find_api_Page__disk_Rot_1 at h
 refine wE [(0, .s (mU p_l)), (1, .c (.func 33) [] [.p [vi p_is_c0]])] Q2 ?_
 refine sg ?_
 refine wE [(0, .s (mU p_l)), (1, .c (.func 33) [] [.p [vi p_is_c0]])] Q2 ?_
 refine sg ?_
 obtain ⟨x1, hx1, h⟩ := bindS h
 refine CallOk.call (w_slices_IndexFunc_api_Page_api_Page__disk_Rot_1 hx1) (LeL.refl _) ?_
 refine wE [(4, vi x1)] Q1 ?_
 refine rt ?_
 cases h
 exact Fz.v
theorem w_disk_Rot {p_d} {p_at} {p_bit} {r} (h : disk_Rot p_d p_at p_bit = some r) : Pure Tryz.prog 11 [(.a [(.s (mU p_d.Synced)), (.s (mU p_d.Loose)), (vb p_d.Down)]), (vi p_at), (vi p_bit)] (.a [(.s (mU r.Synced)), (.s (mU r.Loose)), (vb r.Down)]) := by
 refine po Tryz.tok 60 Tryz.func11 (by kernel_rfl) rfl rfl rfl ?_
 unfold disk_Rot at h
 refine wE [(0, .a [.s (mU p_d.Synced), .s (mU p_d.Loose), vb p_d.Down]), (1, vi p_at), (2, vi p_bit)] Q3 ?_
 refine sg ?_
 refine wT [(2, vi p_bit), (3, .b 3 0), (4, .b 4 0), (6, .b 6 0)] [(3, .box [.s (mU p_d.Synced), .s (mU p_d.Loose), vb p_d.Down]), (4, .box [vi p_at]), (6, .box [.v (.slice none 0 0), .v (.slice none 0 0), vb false])] Q4 J3 rfl ?_
 refine sg ?_
 obtain ⟨x1, hx1, h⟩ := bindS h
 refine ⟨_, rfl, ?_⟩
 refine CallOk.borrow (w_disk_find_api_Page__disk_Rot_1 hx1) (.cons Fz.s (.cons (Fz.c .nil (.cons (Fz.b rfl rfl) .nil)) (.nil))) rfl ?_
 refine wT [(2, vi p_bit), (3, .b 3 0), (6, .b 6 0), (7, vi x1)] [(3, .box [.s (mU p_d.Synced), .s (mU p_d.Loose), vb p_d.Down]), (6, .box [.v (.slice none 0 0), .v (.slice none 0 0), vb false])] Q4 J2 rfl ?_
 refine sq ?_
 obtain ⟨v1, hv1, h⟩ := bindS h
 refine Ok.seqw ⟨Cat.tab [(2, vi p_bit), (3, .b 3 0), (6, .b 6 0), (7, vi x1), (30, vb v1)], [(3, .box [.s (mU p_d.Synced), .s (mU p_d.Loose), vb p_d.Down]), (6, .box [.v (.slice none 0 0), .v (.slice none 0 0), vb false])]⟩ ?_ ?_
 ·refine rg ?_
  obtain ⟨c1, hg1, hv1⟩ := bindS hv1
  refine Br.itf hg1 (fun hb hg1 => ?_) fun hb hg1 => ?_
  ·cases hg1
   obtain ⟨c2, hg2, hv1⟩ := bindS hv1
   replace hg2 := iteT hg2
   cases hg2
   cases hv1
   exact wt Q5 J2 rfl
  cases hg1
  obtain ⟨c2, hg3, hv1⟩ := bindS hv1
  refine Br.itf hg3 (fun hb hg3 => ?_) fun hb hg3 => ?_
  ·cases hg3
   cases hv1
   exact wt Q5 J2 rfl
  obtain ⟨x2, hx2, hg3⟩ := bindS hg3
  obtain ⟨hc1, hg3⟩ := chk_some hg3
  refine ⟨_, rfl, _, idx_nat hx2, _, idx_row hx2, _, rfl, _, List.length_map _, fun _ => (Or.inl ⟨hc1, ?_⟩)⟩
  cases hg3
  cases hv1
  exact wt Q5 J2 rfl
 refine cn 30 (v1) rfl h (fun hb h => ?_) fun hb h => ?_
 ·refine sg ?_
  refine ⟨_, rfl, _, rfl, ?_⟩
  refine wT [(6, .b 6 0)] [(6, .box [.s (mU p_d.Synced), .s (mU p_d.Loose), vb p_d.Down])] Q1 J1 rfl ?_
  refine rt ?_
  cases h
  exact ⟨_, rfl, (Fz.imm rfl)⟩
 refine sk ?_
 refine sg ?_
 obtain ⟨x3, hx3, h⟩ := bindS h
 obtain ⟨x4, hx4, h⟩ := bindS h
 refine ⟨_, rfl, _, idx_nat hx3, _, idx_row hx3, _, rfl, ?_⟩
 refine CallOk.own (D := 38) (wo_bytes_Clone hx4) (LeL.refl _) rfl ?_
 refine wT [(2, vi p_bit), (3, .b 3 0), (6, .b 6 0), (7, vi x1), (8, .o 38)] [(3, .box [.s (mU p_d.Synced), .s (mU p_d.Loose), vb p_d.Down]), (6, .box [.v (.slice none 0 0), .v (.slice none 0 0), vb false]), (38, .own 5 1 (mA x4))] Q5 J3 rfl ?_
 refine sq ?_
 refine Ok.draw (m := 10) (MD := ⟨[]⟩) (CH := ⟨[]⟩) Tryz.tok Tryz.mixed (by kernel_rfl) ?_
 obtain ⟨x5, hx5, h⟩ := bindS h
 obtain ⟨hc2, h⟩ := chk_some h
 obtain ⟨x6, hx6, h⟩ := bindS h
 refine ⟨_, rfl, _, rfl, _, ⟨(by decide), _, rfl, rfl⟩, _, ⟨_, idx_nat hx5, idx_ltm hx5, rfl⟩, _, ⟨_, idx_row hx5, rfl, _, rfl, rfl⟩, _, rfl, _, ⟨(by decide), _, rfl, rfl⟩, _, ⟨hc2, _, b8_shl _ _, rfl⟩, _, ⟨_, b8_xor x5 (toU8 (shlK .u8 (1) (Int.tmod p_bit (8)))), rfl⟩, _, ⟨_, idx_nat hx6, idx_ltm hx6, rfl⟩, Q0, _, idx_row hx6, rfl, _, rfl, _, set_row (f := cU8) (x := x5 ^^^ (toU8 (shlK .u8 (1) (Int.tmod p_bit (8))))), ?_⟩
 refine wT [(3, .b 3 0), (6, .b 6 0), (7, vi x1), (8, .o 38)] [(3, .box [.s (mU p_d.Synced), .s (mU p_d.Loose), vb p_d.Down]), (6, .box [.v (.slice none 0 0), .v (.slice none 0 0), vb false]), (38, .own 5 1 (mA (x4.set (quoK .i64 p_bit (8)).toNat (x5 ^^^ (toU8 (shlK .u8 (1) (Int.tmod p_bit (8))))))))] Q4 J3 rfl ?_
 refine sg ?_
 obtain ⟨x7, hx7, h⟩ := bindS h
 refine ⟨_, rfl, ?_⟩
 refine CallOk.own (D := 51) (wo_slices_Clone_api_Page_api_Page hx7) (LeL.refl _) rfl ?_
 refine ⟨_, rfl, ?_⟩
 refine wT [(3, .b 3 0), (6, .b 6 0), (7, vi x1), (8, .o 38)] [(3, .box [.o 51, .s (mU p_d.Loose), vb p_d.Down]), (51, .own 74 2 (mU x7)), (6, .box [.v (.slice none 0 0), .v (.slice none 0 0), vb false]), (38, .own 5 1 (mA (x4.set (quoK .i64 p_bit (8)).toNat (x5 ^^^ (toU8 (shlK .u8 (1) (Int.tmod p_bit (8))))))))] Q4 J4 rfl ?_
 refine sq ?_
 refine Ok.wk (Wk.freeze (id := 38) rfl) ?_
 refine rg ?_
 obtain ⟨x8, hx8, h⟩ := bindS h
 refine ⟨_, rfl, _, idx_nat hx8, idx_ltm hx8, _, idx_row hx8, rfl, _, rfl, _, set_row (f := c_api_Page) (x := (⟨x8.At, (x4.set (quoK .i64 p_bit (8)).toNat (x5 ^^^ (toU8 (shlK .u8 (1) (Int.tmod p_bit (8))))))⟩ : api_Page)), ?_⟩
 refine wT [(3, .b 3 0), (6, .b 6 0)] [(3, .box [.o 51, .s (mU p_d.Loose), vb p_d.Down]), (51, .own 74 2 (mU (x7.set x1.toNat (⟨x8.At, (x4.set (quoK .i64 p_bit (8)).toNat (x5 ^^^ (toU8 (shlK .u8 (1) (Int.tmod p_bit (8))))))⟩ : api_Page)))), (6, .box [.v (.slice none 0 0), .v (.slice none 0 0), vb false])] Q2 J3 rfl ?_
 refine sg ?_
 refine ⟨_, rfl, _, rfl, ?_⟩
 refine wT [(6, .b 6 0)] [(6, .box [.o 51, .s (mU p_d.Loose), vb p_d.Down]), (51, .own 74 2 (mU (x7.set x1.toNat (⟨x8.At, (x4.set (quoK .i64 p_bit (8)).toNat (x5 ^^^ (toU8 (shlK .u8 (1) (Int.tmod p_bit (8))))))⟩ : api_Page))))] Q1 J2 rfl ?_
 refine rt ?_
 cases h
 exact ⟨_, rfl, (Fz.a (.cons (Fz.o rfl) (.cons Fz.s (.cons Fz.v .nil))))⟩
end Go.Proofs
