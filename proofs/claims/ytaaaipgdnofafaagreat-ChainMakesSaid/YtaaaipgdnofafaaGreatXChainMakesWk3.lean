/- The walks of this seat beside the plain programs, part 3. No condition. -/
import Derived.Test.YtaaaipgdnofafaaGreatXChainMakesEn
import Derived.Test.YtaaaipgdnofafaaGreatXChainMakesWk0
import Derived.Test.YtaaaipgdnofafaaGreatXChainMakesWk1
import Derived.Test.YtaaaipgdnofafaaGreatXChainMakesWk2
namespace Go.Proofs
set_option linter.all false
open Go Go.Cat
variable [M : Mono]
set_option maxRecDepth 100000
theorem w_law26_head [Off] {r} (h : law26_head = some r) : Pure Tryz.prog 9 [] (vb r) := by
 refine po Tryz.tok 259 Tryz.func9 (by kernel_rfl) rfl rfl rfl ?_
 unfold law26_head at h
 refine wE [] Q0 ?_
 refine sg ?_
 refine wE [] Q0 ?_
 refine sg ?_
 obtain ⟨x1, hx1, h⟩ := bindS h
 refine CallOk.call (w_disk_New hx1) (LeL.refl _) ?_
 obtain ⟨x2, hx2, h⟩ := bindS h
 refine CallOk.call (w_disk_New hx2) (LeL.refl _) ?_
 obtain ⟨x3, hx3, h⟩ := bindS h
 refine CallOk.call (w_disk_New hx3) (LeL.refl _) ?_
 refine Or.inl ?_
 refine wE [(1, .s (mA ([x1, x2, x3])))] Q1 ?_
 refine sg ?_
 obtain ⟨x4, hx4, h⟩ := bindS h
 refine Or.inl (Or.inl ?_)
 refine CallOk.call (w_chain_Make hx4) (LeL.refl _) ?_
 refine ⟨_, rfl, ?_⟩
 refine wT [(1, .s (mA ([x1, x2, x3]))), (2, .b 2 0), (3, .s (mA x4.2.1)), (4, vi x4.2.2)] [(2, .box [vi x4.1.Id, vi x4.1.Ver, .s (mI x4.1.Servers)])] Q4 J1 rfl ?_
 refine sg ?_
 obtain ⟨x5, hx5, h⟩ := bindS h
 refine Or.inl ?_
 refine CallOk.call (w_chain_Make hx5) (.cons (lr) (.cons (lr) (.cons (lr) (.cons (Le.nil) (.nil))))) ?_
 refine ⟨_, rfl, ?_⟩
 refine wT [(2, .b 2 0), (3, .s (mA x4.2.1)), (4, vi x4.2.2), (7, vi x5.2.2)] [(2, .box [vi x4.1.Id, vi x4.1.Ver, .s (mI x4.1.Servers)])] Q4 J1 rfl ?_
 refine sg ?_
 obtain ⟨x6, hx6, h⟩ := bindS h
 refine ⟨_, rfl, Or.inl ?_⟩
 refine CallOk.call (w_chain_Write hx6) (LeL.refl _) ?_
 refine wT [(2, .b 2 0), (4, vi x4.2.2), (7, vi x5.2.2), (8, .s (mA x6.1)), (9, vb x6.2)] [(2, .box [vi x4.1.Id, vi x4.1.Ver, .s (mI x4.1.Servers)])] Q5 J1 rfl ?_
 refine sg ?_
 obtain ⟨x7, hx7, h⟩ := bindS h
 refine ⟨_, rfl, ?_⟩
 refine CallOk.call (w_chain_Read hx7) (LeL.refl _) ?_
 refine wT [(2, .b 2 0), (4, vi x4.2.2), (7, vi x5.2.2), (8, .s (mA x6.1)), (9, vb x6.2), (10, .s (mU x7.1)), (11, vi x7.2)] [(2, .box [vi x4.1.Id, vi x4.1.Ver, .s (mI x4.1.Servers)])] Q7 J1 rfl ?_
 refine sg ?_
 obtain ⟨x8, hx8, h⟩ := bindS h
 refine ⟨_, rfl, ?_⟩
 refine CallOk.call (w_chain_Cut hx8) (LeL.refl _) ?_
 refine ⟨_, rfl, ?_⟩
 refine wT [(2, .b 2 0), (4, vi x4.2.2), (7, vi x5.2.2), (8, .s (mA x6.1)), (9, vb x6.2), (10, .s (mU x7.1)), (11, vi x7.2), (12, .b 12 0), (13, .s (mA x8.2.1)), (14, vi x8.2.2)] [(2, .box [vi x4.1.Id, vi x4.1.Ver, .s (mI x4.1.Servers)]), (12, .box [vi x8.1.Id, vi x8.1.Ver, .s (mI x8.1.Servers)])] ⟨lr, lr, Q8⟩ J2 rfl ?_
 refine sg ?_
 obtain ⟨x9, hx9, h⟩ := bindS h
 refine ⟨_, rfl, ?_⟩
 refine CallOk.call (w_chain_Read hx9) (LeL.refl _) ?_
 refine wT [(2, .b 2 0), (4, vi x4.2.2), (7, vi x5.2.2), (8, .s (mA x6.1)), (9, vb x6.2), (10, .s (mU x7.1)), (11, vi x7.2), (12, .b 12 0), (13, .s (mA x8.2.1)), (14, vi x8.2.2), (15, .s (mU x9.1)), (16, vi x9.2)] [(2, .box [vi x4.1.Id, vi x4.1.Ver, .s (mI x4.1.Servers)]), (12, .box [vi x8.1.Id, vi x8.1.Ver, .s (mI x8.1.Servers)])] ⟨lr, lr, lr, lr, Q8⟩ J2 rfl ?_
 refine sg ?_
 obtain ⟨x10, hx10, h⟩ := bindS h
 refine ⟨_, rfl, ?_⟩
 refine CallOk.call (w_chain_Cut hx10) (LeL.refl _) ?_
 refine ⟨_, rfl, ?_⟩
 refine wT [(2, .b 2 0), (4, vi x4.2.2), (7, vi x5.2.2), (9, vb x6.2), (10, .s (mU x7.1)), (11, vi x7.2), (12, .b 12 0), (13, .s (mA x8.2.1)), (14, vi x8.2.2), (15, .s (mU x9.1)), (16, vi x9.2), (17, .b 17 0), (18, .s (mA x10.2.1)), (19, vi x10.2.2)] [(2, .box [vi x4.1.Id, vi x4.1.Ver, .s (mI x4.1.Servers)]), (12, .box [vi x8.1.Id, vi x8.1.Ver, .s (mI x8.1.Servers)]), (17, .box [vi x10.1.Id, vi x10.1.Ver, .s (mI x10.1.Servers)])] ⟨lr, lr, lr, lr, lr, lr, Q8⟩ J3 rfl ?_
 refine sg ?_
 obtain ⟨x11, hx11, h⟩ := bindS h
 refine ⟨_, rfl, ?_⟩
 refine CallOk.call (w_chain_Read hx11) (LeL.refl _) ?_
 refine wT [(2, .b 2 0), (4, vi x4.2.2), (7, vi x5.2.2), (9, vb x6.2), (10, .s (mU x7.1)), (11, vi x7.2), (12, .b 12 0), (13, .s (mA x8.2.1)), (14, vi x8.2.2), (15, .s (mU x9.1)), (16, vi x9.2), (17, .b 17 0), (18, .s (mA x10.2.1)), (19, vi x10.2.2), (20, .s (mU x11.1)), (21, vi x11.2)] [(2, .box [vi x4.1.Id, vi x4.1.Ver, .s (mI x4.1.Servers)]), (12, .box [vi x8.1.Id, vi x8.1.Ver, .s (mI x8.1.Servers)]), (17, .box [vi x10.1.Id, vi x10.1.Ver, .s (mI x10.1.Servers)])] ⟨lr, lr, lr, lr, lr, lr, lr, lr, Q8⟩ J3 rfl ?_
 refine sg ?_
 obtain ⟨x12, hx12, h⟩ := bindS h
 refine ⟨_, rfl, ?_⟩
 refine CallOk.call (w_chain_Read hx12) (LeL.refl _) ?_
 refine wT [(4, vi x4.2.2), (7, vi x5.2.2), (9, vb x6.2), (10, .s (mU x7.1)), (11, vi x7.2), (12, .b 12 0), (13, .s (mA x8.2.1)), (14, vi x8.2.2), (15, .s (mU x9.1)), (16, vi x9.2), (17, .b 17 0), (18, .s (mA x10.2.1)), (19, vi x10.2.2), (20, .s (mU x11.1)), (21, vi x11.2), (23, vi x12.2)] [(12, .box [vi x8.1.Id, vi x8.1.Ver, .s (mI x8.1.Servers)]), (17, .box [vi x10.1.Id, vi x10.1.Ver, .s (mI x10.1.Servers)])] ⟨lr, lr, lr, lr, lr, lr, lr, lr, Q8⟩ J2 rfl ?_
 refine sg ?_
 obtain ⟨x13, hx13, h⟩ := bindS h
 refine ⟨_, rfl, ?_⟩
 refine CallOk.call (w_chain_Mend hx13) (LeL.refl _) ?_
 refine ⟨_, rfl, ?_⟩
 refine wT [(4, vi x4.2.2), (7, vi x5.2.2), (9, vb x6.2), (10, .s (mU x7.1)), (11, vi x7.2), (12, .b 12 0), (13, .s (mA x8.2.1)), (14, vi x8.2.2), (15, .s (mU x9.1)), (16, vi x9.2), (19, vi x10.2.2), (20, .s (mU x11.1)), (21, vi x11.2), (23, vi x12.2), (24, .b 24 0), (25, .s (mA x13.2.1)), (26, vi x13.2.2)] [(12, .box [vi x8.1.Id, vi x8.1.Ver, .s (mI x8.1.Servers)]), (24, .box [vi x13.1.Id, vi x13.1.Ver, .s (mI x13.1.Servers)])] ⟨lr, lr, lr, lr, lr, lr, lr, lr, lr, Q8⟩ J2 rfl ?_
 refine sg ?_
 obtain ⟨x14, hx14, h⟩ := bindS h
 refine ⟨_, rfl, ?_⟩
 refine CallOk.call (w_chain_Read hx14) (LeL.refl _) ?_
 refine wT [(4, vi x4.2.2), (7, vi x5.2.2), (9, vb x6.2), (10, .s (mU x7.1)), (11, vi x7.2), (12, .b 12 0), (13, .s (mA x8.2.1)), (14, vi x8.2.2), (15, .s (mU x9.1)), (16, vi x9.2), (19, vi x10.2.2), (20, .s (mU x11.1)), (21, vi x11.2), (23, vi x12.2), (24, .b 24 0), (25, .s (mA x13.2.1)), (26, vi x13.2.2), (27, .s (mU x14.1)), (28, vi x14.2)] [(12, .box [vi x8.1.Id, vi x8.1.Ver, .s (mI x8.1.Servers)]), (24, .box [vi x13.1.Id, vi x13.1.Ver, .s (mI x13.1.Servers)])] ⟨lr, lr, lr, lr, lr, lr, lr, lr, lr, lr, lr, Q8⟩ J2 rfl ?_
 refine sq ?_
 refine Ok.draw (m := 10) (MD := ⟨[]⟩) (CH := ⟨[]⟩) Tryz.tok Tryz.mixed (by kernel_rfl) ?_
 obtain ⟨x15, hx15, h⟩ := bindS h
 obtain ⟨x16, hx16, h⟩ := bindS h
 obtain ⟨x17, hx17, h⟩ := bindS h
 refine ⟨_, ⟨_, rfl, rfl⟩, _, rfl, _, ⟨_, .of_pure (w_disk_New hx15) (LeL.refl _), rfl⟩, _, ⟨_, .of_pure (w_law26_with hx16) (LeL.refl _), rfl⟩, _, ⟨_, .of_pure (w_chain_Patch hx17) (LeL.refl _), rfl⟩, _, rfl, _, rfl, _, rfl, _, rfl, _, rfl, Q0, ?_⟩
 refine wT [(4, vi x4.2.2), (7, vi x5.2.2), (9, vb x6.2), (10, .s (mU x7.1)), (11, vi x7.2), (12, .b 12 0), (13, .s (mA x8.2.1)), (14, vi x8.2.2), (15, .s (mU x9.1)), (16, vi x9.2), (19, vi x10.2.2), (20, .s (mU x11.1)), (21, vi x11.2), (23, vi x12.2), (24, .b 24 0), (25, .s (mA x13.2.1)), (26, vi x13.2.2), (27, .s (mU x14.1)), (28, vi x14.2), (29, .s (mA x17.1)), (30, vi x17.2)] [(12, .box [vi x8.1.Id, vi x8.1.Ver, .s (mI x8.1.Servers)]), (24, .box [vi x13.1.Id, vi x13.1.Ver, .s (mI x13.1.Servers)])] ⟨lr, lr, lr, lr, lr, lr, lr, lr, lr, lr, lr, lr, lr, Q8⟩ J2 rfl ?_
 refine sg ?_
 obtain ⟨x18, hx18, h⟩ := bindS h
 refine ⟨_, rfl, ?_⟩
 refine CallOk.call (w_chain_Cut hx18) (LeL.refl _) ?_
 refine ⟨_, rfl, ?_⟩
 refine wT [(4, vi x4.2.2), (7, vi x5.2.2), (9, vb x6.2), (10, .s (mU x7.1)), (11, vi x7.2), (14, vi x8.2.2), (15, .s (mU x9.1)), (16, vi x9.2), (19, vi x10.2.2), (20, .s (mU x11.1)), (21, vi x11.2), (23, vi x12.2), (24, .b 24 0), (25, .s (mA x13.2.1)), (26, vi x13.2.2), (27, .s (mU x14.1)), (28, vi x14.2), (29, .s (mA x17.1)), (30, vi x17.2), (33, vi x18.2.2)] [(24, .box [vi x13.1.Id, vi x13.1.Ver, .s (mI x13.1.Servers)])] ⟨lr, lr, lr, lr, lr, lr, lr, lr, lr, lr, lr, lr, Q8⟩ J1 rfl ?_
 refine sg ?_
 obtain ⟨x19, hx19, h⟩ := bindS h
 refine ⟨_, rfl, Or.inl ?_⟩
 refine CallOk.call (w_chain_Write hx19) (LeL.refl _) ?_
 refine wT [(4, vi x4.2.2), (7, vi x5.2.2), (9, vb x6.2), (10, .s (mU x7.1)), (11, vi x7.2), (14, vi x8.2.2), (15, .s (mU x9.1)), (16, vi x9.2), (19, vi x10.2.2), (20, .s (mU x11.1)), (21, vi x11.2), (23, vi x12.2), (24, .b 24 0), (25, .s (mA x13.2.1)), (26, vi x13.2.2), (27, .s (mU x14.1)), (28, vi x14.2), (29, .s (mA x17.1)), (30, vi x17.2), (33, vi x18.2.2), (34, .s (mA x19.1)), (35, vb x19.2)] [(24, .box [vi x13.1.Id, vi x13.1.Ver, .s (mI x13.1.Servers)])] ⟨lr, lr, lr, lr, lr, lr, lr, lr, lr, lr, lr, lr, lr, lr, Q8⟩ J1 rfl ?_
 refine sg ?_
 obtain ⟨x20, hx20, h⟩ := bindS h
 refine Or.inl ?_
 refine CallOk.call (w_ref04_Bytes hx20) (LeL.refl _) ?_
 refine wT [(4, vi x4.2.2), (7, vi x5.2.2), (9, vb x6.2), (11, vi x7.2), (14, vi x8.2.2), (15, .s (mU x9.1)), (16, vi x9.2), (19, vi x10.2.2), (20, .s (mU x11.1)), (21, vi x11.2), (23, vi x12.2), (24, .b 24 0), (25, .s (mA x13.2.1)), (26, vi x13.2.2), (27, .s (mU x14.1)), (28, vi x14.2), (29, .s (mA x17.1)), (30, vi x17.2), (33, vi x18.2.2), (34, .s (mA x19.1)), (35, vb x19.2), (36, vb x20)] [(24, .box [vi x13.1.Id, vi x13.1.Ver, .s (mI x13.1.Servers)])] ⟨lr, lr, lr, lr, lr, lr, lr, lr, lr, lr, lr, lr, lr, lr, Q8⟩ J1 rfl ?_
 refine sg ?_
 obtain ⟨x21, hx21, h⟩ := bindS h
 refine Or.inl ?_
 refine CallOk.call (w_ref04_Bytes hx21) (LeL.refl _) ?_
 refine wT [(4, vi x4.2.2), (7, vi x5.2.2), (9, vb x6.2), (11, vi x7.2), (14, vi x8.2.2), (16, vi x9.2), (19, vi x10.2.2), (20, .s (mU x11.1)), (21, vi x11.2), (23, vi x12.2), (24, .b 24 0), (25, .s (mA x13.2.1)), (26, vi x13.2.2), (27, .s (mU x14.1)), (28, vi x14.2), (29, .s (mA x17.1)), (30, vi x17.2), (33, vi x18.2.2), (34, .s (mA x19.1)), (35, vb x19.2), (36, vb x20), (37, vb x21)] [(24, .box [vi x13.1.Id, vi x13.1.Ver, .s (mI x13.1.Servers)])] ⟨lr, lr, lr, lr, lr, lr, lr, lr, lr, lr, lr, lr, lr, lr, Q8⟩ J1 rfl ?_
 refine sg ?_
 obtain ⟨x22, hx22, h⟩ := bindS h
 refine Or.inl ?_
 refine CallOk.call (w_ref04_Bytes hx22) (LeL.refl _) ?_
 refine wT [(4, vi x4.2.2), (7, vi x5.2.2), (9, vb x6.2), (11, vi x7.2), (14, vi x8.2.2), (16, vi x9.2), (19, vi x10.2.2), (21, vi x11.2), (23, vi x12.2), (24, .b 24 0), (25, .s (mA x13.2.1)), (26, vi x13.2.2), (27, .s (mU x14.1)), (28, vi x14.2), (29, .s (mA x17.1)), (30, vi x17.2), (33, vi x18.2.2), (34, .s (mA x19.1)), (35, vb x19.2), (36, vb x20), (37, vb x21), (38, vb x22)] [(24, .box [vi x13.1.Id, vi x13.1.Ver, .s (mI x13.1.Servers)])] ⟨lr, lr, lr, lr, lr, lr, lr, lr, lr, lr, lr, lr, lr, lr, Q8⟩ J1 rfl ?_
 refine sg ?_
 obtain ⟨x23, hx23, h⟩ := bindS h
 refine Or.inl ?_
 refine CallOk.call (w_ref04_Bytes hx23) (LeL.refl _) ?_
 refine wT [(4, vi x4.2.2), (7, vi x5.2.2), (9, vb x6.2), (11, vi x7.2), (14, vi x8.2.2), (16, vi x9.2), (19, vi x10.2.2), (21, vi x11.2), (23, vi x12.2), (24, .b 24 0), (25, .s (mA x13.2.1)), (26, vi x13.2.2), (28, vi x14.2), (29, .s (mA x17.1)), (30, vi x17.2), (33, vi x18.2.2), (34, .s (mA x19.1)), (35, vb x19.2), (36, vb x20), (37, vb x21), (38, vb x22), (39, vb x23)] [(24, .box [vi x13.1.Id, vi x13.1.Ver, .s (mI x13.1.Servers)])] ⟨lr, lr, lr, lr, lr, lr, lr, lr, lr, lr, lr, lr, lr, lr, Q8⟩ J1 rfl ?_
 refine sg ?_
 obtain ⟨x24, hx24, h⟩ := bindS h
 refine ⟨_, rfl, ?_⟩
 refine CallOk.call (w_chain_Intact hx24) (LeL.refl _) ?_
 obtain ⟨x25, hx25, h⟩ := bindS h
 refine Or.inl ?_
 refine CallOk.call (w_ref26_Ints hx25) (LeL.refl _) ?_
 refine wT [(4, vi x4.2.2), (7, vi x5.2.2), (9, vb x6.2), (11, vi x7.2), (14, vi x8.2.2), (16, vi x9.2), (19, vi x10.2.2), (21, vi x11.2), (23, vi x12.2), (24, .b 24 0), (25, .s (mA x13.2.1)), (26, vi x13.2.2), (28, vi x14.2), (30, vi x17.2), (33, vi x18.2.2), (34, .s (mA x19.1)), (35, vb x19.2), (36, vb x20), (37, vb x21), (38, vb x22), (39, vb x23), (40, vb x25)] [(24, .box [vi x13.1.Id, vi x13.1.Ver, .s (mI x13.1.Servers)])] ⟨lr, lr, lr, lr, lr, lr, lr, lr, lr, lr, lr, lr, lr, lr, Q8⟩ J1 rfl ?_
 refine sq ?_
 refine Ok.draw (m := 8) (MD := ⟨[]⟩) (CH := ⟨[]⟩) Tryz.tok Tryz.mixed (by kernel_rfl) ?_
 obtain ⟨x26, hx26, h⟩ := bindS h
 obtain ⟨x27, hx27, h⟩ := bindS h
 obtain ⟨x28, hx28, h⟩ := bindS h
 obtain ⟨x29, hx29, h⟩ := bindS h
 refine ⟨_, ⟨_, rfl, rfl⟩, _, rfl, _, ⟨_, .of_pure (w_disk_New hx26) (LeL.refl _), rfl⟩, _, ⟨_, .of_pure (w_law26_with hx27) (LeL.refl _), rfl⟩, _, ⟨_, .of_pure (w_chain_Intact hx28) (LeL.refl _), rfl⟩, _, rfl, _, ⟨_, .of_pure (w_ref26_Ints hx29) (LeL.refl _), rfl⟩, _, rfl, Q0, ?_⟩
 refine wT [(4, vi x4.2.2), (7, vi x5.2.2), (9, vb x6.2), (11, vi x7.2), (14, vi x8.2.2), (16, vi x9.2), (19, vi x10.2.2), (21, vi x11.2), (23, vi x12.2), (24, .b 24 0), (26, vi x13.2.2), (28, vi x14.2), (30, vi x17.2), (33, vi x18.2.2), (34, .s (mA x19.1)), (35, vb x19.2), (36, vb x20), (37, vb x21), (38, vb x22), (39, vb x23), (40, vb x25), (41, vb x29)] [(24, .box [vi x13.1.Id, vi x13.1.Ver, .s (mI x13.1.Servers)])] ⟨lr, lr, lr, lr, lr, lr, lr, lr, lr, lr, lr, lr, lr, lr, Q8⟩ J1 rfl ?_
 refine sg ?_
 obtain ⟨x30, hx30, h⟩ := bindS h
 refine ⟨_, rfl, Or.inl ?_⟩
 refine CallOk.call (w_ref26_Same hx30) (LeL.refl _) ?_
 refine wT [(4, vi x4.2.2), (7, vi x5.2.2), (9, vb x6.2), (11, vi x7.2), (14, vi x8.2.2), (16, vi x9.2), (19, vi x10.2.2), (21, vi x11.2), (23, vi x12.2), (24, .b 24 0), (26, vi x13.2.2), (28, vi x14.2), (30, vi x17.2), (33, vi x18.2.2), (34, .s (mA x19.1)), (35, vb x19.2), (36, vb x20), (37, vb x21), (38, vb x22), (39, vb x23), (40, vb x25), (41, vb x29), (42, vb x30)] [(24, .box [vi x13.1.Id, vi x13.1.Ver, .s (mI x13.1.Servers)])] ⟨lr, lr, lr, lr, lr, lr, lr, lr, lr, lr, lr, lr, lr, lr, lr, Q8⟩ J1 rfl ?_
 refine sq ?_
 obtain ⟨v1, hv1, h⟩ := bindS h
 refine Ok.seqw ⟨Cat.tab [(23, vi x12.2), (24, .b 24 0), (26, vi x13.2.2), (28, vi x14.2), (30, vi x17.2), (33, vi x18.2.2), (34, .s (mA x19.1)), (35, vb x19.2), (226, vb v1)], [(24, .box [vi x13.1.Id, vi x13.1.Ver, .s (mI x13.1.Servers)])]⟩ ?_ ?_
 ·refine rg ?_
  obtain ⟨c1, hg1, hv1⟩ := bindS hv1
  refine Br.itf hg1 (fun hb hg1 => ?_) fun hb hg1 => ?_
  ·cases hg1
   obtain ⟨c2, hg2, hv1⟩ := bindS hv1
   replace hg2 := iteT hg2
   cases hg2
   obtain ⟨c3, hg3, hv1⟩ := bindS hv1
   replace hg3 := iteT hg3
   cases hg3
   obtain ⟨c4, hg4, hv1⟩ := bindS hv1
   replace hg4 := iteT hg4
   cases hg4
   obtain ⟨c5, hg5, hv1⟩ := bindS hv1
   replace hg5 := iteT hg5
   cases hg5
   obtain ⟨c6, hg6, hv1⟩ := bindS hv1
   replace hg6 := iteT hg6
   cases hg6
   obtain ⟨c7, hg7, hv1⟩ := bindS hv1
   replace hg7 := iteT hg7
   cases hg7
   obtain ⟨c8, hg8, hv1⟩ := bindS hv1
   replace hg8 := iteT hg8
   cases hg8
   obtain ⟨c9, hg9, hv1⟩ := bindS hv1
   replace hg9 := iteT hg9
   cases hg9
   obtain ⟨c10, hg10, hv1⟩ := bindS hv1
   replace hg10 := iteT hg10
   cases hg10
   obtain ⟨c11, hg11, hv1⟩ := bindS hv1
   replace hg11 := iteT hg11
   cases hg11
   obtain ⟨c12, hg12, hv1⟩ := bindS hv1
   replace hg12 := iteT hg12
   cases hg12
   obtain ⟨c13, hg13, hv1⟩ := bindS hv1
   replace hg13 := iteT hg13
   cases hg13
   obtain ⟨c14, hg14, hv1⟩ := bindS hv1
   replace hg14 := iteT hg14
   cases hg14
   cases hv1
   exact wt ⟨lr, Q8⟩ J1 rfl
  cases hg1
  obtain ⟨c2, hg15, hv1⟩ := bindS hv1
  refine Br.itf hg15 (fun hb hg15 => ?_) fun hb hg15 => ?_
  ·cases hg15
   obtain ⟨c3, hg16, hv1⟩ := bindS hv1
   replace hg16 := iteT hg16
   cases hg16
   obtain ⟨c4, hg17, hv1⟩ := bindS hv1
   replace hg17 := iteT hg17
   cases hg17
   obtain ⟨c5, hg18, hv1⟩ := bindS hv1
   replace hg18 := iteT hg18
   cases hg18
   obtain ⟨c6, hg19, hv1⟩ := bindS hv1
   replace hg19 := iteT hg19
   cases hg19
   obtain ⟨c7, hg20, hv1⟩ := bindS hv1
   replace hg20 := iteT hg20
   cases hg20
   obtain ⟨c8, hg21, hv1⟩ := bindS hv1
   replace hg21 := iteT hg21
   cases hg21
   obtain ⟨c9, hg22, hv1⟩ := bindS hv1
   replace hg22 := iteT hg22
   cases hg22
   obtain ⟨c10, hg23, hv1⟩ := bindS hv1
   replace hg23 := iteT hg23
   cases hg23
   obtain ⟨c11, hg24, hv1⟩ := bindS hv1
   replace hg24 := iteT hg24
   cases hg24
   obtain ⟨c12, hg25, hv1⟩ := bindS hv1
   replace hg25 := iteT hg25
   cases hg25
   obtain ⟨c13, hg26, hv1⟩ := bindS hv1
   replace hg26 := iteT hg26
   cases hg26
   obtain ⟨c14, hg27, hv1⟩ := bindS hv1
   replace hg27 := iteT hg27
   cases hg27
   cases hv1
   exact wt ⟨lr, Q8⟩ J1 rfl
  cases hg15
  obtain ⟨c3, hg28, hv1⟩ := bindS hv1
  refine Br.itf hg28 (fun hb hg28 => ?_) fun hb hg28 => ?_
  ·cases hg28
   obtain ⟨c4, hg29, hv1⟩ := bindS hv1
   replace hg29 := iteT hg29
   cases hg29
   obtain ⟨c5, hg30, hv1⟩ := bindS hv1
   replace hg30 := iteT hg30
   cases hg30
   obtain ⟨c6, hg31, hv1⟩ := bindS hv1
   replace hg31 := iteT hg31
   cases hg31
   obtain ⟨c7, hg32, hv1⟩ := bindS hv1
   replace hg32 := iteT hg32
   cases hg32
   obtain ⟨c8, hg33, hv1⟩ := bindS hv1
   replace hg33 := iteT hg33
   cases hg33
   obtain ⟨c9, hg34, hv1⟩ := bindS hv1
   replace hg34 := iteT hg34
   cases hg34
   obtain ⟨c10, hg35, hv1⟩ := bindS hv1
   replace hg35 := iteT hg35
   cases hg35
   obtain ⟨c11, hg36, hv1⟩ := bindS hv1
   replace hg36 := iteT hg36
   cases hg36
   obtain ⟨c12, hg37, hv1⟩ := bindS hv1
   replace hg37 := iteT hg37
   cases hg37
   obtain ⟨c13, hg38, hv1⟩ := bindS hv1
   replace hg38 := iteT hg38
   cases hg38
   obtain ⟨c14, hg39, hv1⟩ := bindS hv1
   replace hg39 := iteT hg39
   cases hg39
   cases hv1
   exact wt ⟨lr, Q8⟩ J1 rfl
  cases hg28
  obtain ⟨c4, hg40, hv1⟩ := bindS hv1
  refine Br.itf hg40 (fun hb hg40 => ?_) fun hb hg40 => ?_
  ·cases hg40
   obtain ⟨c5, hg41, hv1⟩ := bindS hv1
   replace hg41 := iteT hg41
   cases hg41
   obtain ⟨c6, hg42, hv1⟩ := bindS hv1
   replace hg42 := iteT hg42
   cases hg42
   obtain ⟨c7, hg43, hv1⟩ := bindS hv1
   replace hg43 := iteT hg43
   cases hg43
   obtain ⟨c8, hg44, hv1⟩ := bindS hv1
   replace hg44 := iteT hg44
   cases hg44
   obtain ⟨c9, hg45, hv1⟩ := bindS hv1
   replace hg45 := iteT hg45
   cases hg45
   obtain ⟨c10, hg46, hv1⟩ := bindS hv1
   replace hg46 := iteT hg46
   cases hg46
   obtain ⟨c11, hg47, hv1⟩ := bindS hv1
   replace hg47 := iteT hg47
   cases hg47
   obtain ⟨c12, hg48, hv1⟩ := bindS hv1
   replace hg48 := iteT hg48
   cases hg48
   obtain ⟨c13, hg49, hv1⟩ := bindS hv1
   replace hg49 := iteT hg49
   cases hg49
   obtain ⟨c14, hg50, hv1⟩ := bindS hv1
   replace hg50 := iteT hg50
   cases hg50
   cases hv1
   exact wt ⟨lr, Q8⟩ J1 rfl
  cases hg40
  obtain ⟨c5, hg51, hv1⟩ := bindS hv1
  refine Br.itf hg51 (fun hb hg51 => ?_) fun hb hg51 => ?_
  ·cases hg51
   obtain ⟨c6, hg52, hv1⟩ := bindS hv1
   replace hg52 := iteT hg52
   cases hg52
   obtain ⟨c7, hg53, hv1⟩ := bindS hv1
   replace hg53 := iteT hg53
   cases hg53
   obtain ⟨c8, hg54, hv1⟩ := bindS hv1
   replace hg54 := iteT hg54
   cases hg54
   obtain ⟨c9, hg55, hv1⟩ := bindS hv1
   replace hg55 := iteT hg55
   cases hg55
   obtain ⟨c10, hg56, hv1⟩ := bindS hv1
   replace hg56 := iteT hg56
   cases hg56
   obtain ⟨c11, hg57, hv1⟩ := bindS hv1
   replace hg57 := iteT hg57
   cases hg57
   obtain ⟨c12, hg58, hv1⟩ := bindS hv1
   replace hg58 := iteT hg58
   cases hg58
   obtain ⟨c13, hg59, hv1⟩ := bindS hv1
   replace hg59 := iteT hg59
   cases hg59
   obtain ⟨c14, hg60, hv1⟩ := bindS hv1
   replace hg60 := iteT hg60
   cases hg60
   cases hv1
   exact wt ⟨lr, Q8⟩ J1 rfl
  cases hg51
  obtain ⟨c6, hg61, hv1⟩ := bindS hv1
  refine Br.itf hg61 (fun hb hg61 => ?_) fun hb hg61 => ?_
  ·cases hg61
   obtain ⟨c7, hg62, hv1⟩ := bindS hv1
   replace hg62 := iteT hg62
   cases hg62
   obtain ⟨c8, hg63, hv1⟩ := bindS hv1
   replace hg63 := iteT hg63
   cases hg63
   obtain ⟨c9, hg64, hv1⟩ := bindS hv1
   replace hg64 := iteT hg64
   cases hg64
   obtain ⟨c10, hg65, hv1⟩ := bindS hv1
   replace hg65 := iteT hg65
   cases hg65
   obtain ⟨c11, hg66, hv1⟩ := bindS hv1
   replace hg66 := iteT hg66
   cases hg66
   obtain ⟨c12, hg67, hv1⟩ := bindS hv1
   replace hg67 := iteT hg67
   cases hg67
   obtain ⟨c13, hg68, hv1⟩ := bindS hv1
   replace hg68 := iteT hg68
   cases hg68
   obtain ⟨c14, hg69, hv1⟩ := bindS hv1
   replace hg69 := iteT hg69
   cases hg69
   cases hv1
   exact wt ⟨lr, Q8⟩ J1 rfl
  cases hg61
  obtain ⟨c7, hg70, hv1⟩ := bindS hv1
  refine Br.itf hg70 (fun hb hg70 => ?_) fun hb hg70 => ?_
  ·cases hg70
   obtain ⟨c8, hg71, hv1⟩ := bindS hv1
   replace hg71 := iteT hg71
   cases hg71
   obtain ⟨c9, hg72, hv1⟩ := bindS hv1
   replace hg72 := iteT hg72
   cases hg72
   obtain ⟨c10, hg73, hv1⟩ := bindS hv1
   replace hg73 := iteT hg73
   cases hg73
   obtain ⟨c11, hg74, hv1⟩ := bindS hv1
   replace hg74 := iteT hg74
   cases hg74
   obtain ⟨c12, hg75, hv1⟩ := bindS hv1
   replace hg75 := iteT hg75
   cases hg75
   obtain ⟨c13, hg76, hv1⟩ := bindS hv1
   replace hg76 := iteT hg76
   cases hg76
   obtain ⟨c14, hg77, hv1⟩ := bindS hv1
   replace hg77 := iteT hg77
   cases hg77
   cases hv1
   exact wt ⟨lr, Q8⟩ J1 rfl
  cases hg70
  obtain ⟨c8, hg78, hv1⟩ := bindS hv1
  refine Br.itf hg78 (fun hb hg78 => ?_) fun hb hg78 => ?_
  ·cases hg78
   obtain ⟨c9, hg79, hv1⟩ := bindS hv1
   replace hg79 := iteT hg79
   cases hg79
   obtain ⟨c10, hg80, hv1⟩ := bindS hv1
   replace hg80 := iteT hg80
   cases hg80
   obtain ⟨c11, hg81, hv1⟩ := bindS hv1
   replace hg81 := iteT hg81
   cases hg81
   obtain ⟨c12, hg82, hv1⟩ := bindS hv1
   replace hg82 := iteT hg82
   cases hg82
   obtain ⟨c13, hg83, hv1⟩ := bindS hv1
   replace hg83 := iteT hg83
   cases hg83
   obtain ⟨c14, hg84, hv1⟩ := bindS hv1
   replace hg84 := iteT hg84
   cases hg84
   cases hv1
   exact wt ⟨lr, Q8⟩ J1 rfl
  cases hg78
  obtain ⟨c9, hg85, hv1⟩ := bindS hv1
  refine Br.itf hg85 (fun hb hg85 => ?_) fun hb hg85 => ?_
  ·cases hg85
   obtain ⟨c10, hg86, hv1⟩ := bindS hv1
   replace hg86 := iteT hg86
   cases hg86
   obtain ⟨c11, hg87, hv1⟩ := bindS hv1
   replace hg87 := iteT hg87
   cases hg87
   obtain ⟨c12, hg88, hv1⟩ := bindS hv1
   replace hg88 := iteT hg88
   cases hg88
   obtain ⟨c13, hg89, hv1⟩ := bindS hv1
   replace hg89 := iteT hg89
   cases hg89
   obtain ⟨c14, hg90, hv1⟩ := bindS hv1
   replace hg90 := iteT hg90
   cases hg90
   cases hv1
   exact wt ⟨lr, Q8⟩ J1 rfl
  cases hg85
  obtain ⟨c10, hg91, hv1⟩ := bindS hv1
  refine Br.itf hg91 (fun hb hg91 => ?_) fun hb hg91 => ?_
  ·cases hg91
   obtain ⟨c11, hg92, hv1⟩ := bindS hv1
   replace hg92 := iteT hg92
   cases hg92
   obtain ⟨c12, hg93, hv1⟩ := bindS hv1
   replace hg93 := iteT hg93
   cases hg93
   obtain ⟨c13, hg94, hv1⟩ := bindS hv1
   replace hg94 := iteT hg94
   cases hg94
   obtain ⟨c14, hg95, hv1⟩ := bindS hv1
   replace hg95 := iteT hg95
   cases hg95
   cases hv1
   exact wt ⟨lr, Q8⟩ J1 rfl
  cases hg91
  obtain ⟨c11, hg96, hv1⟩ := bindS hv1
  refine Br.itf hg96 (fun hb hg96 => ?_) fun hb hg96 => ?_
  ·cases hg96
   obtain ⟨c12, hg97, hv1⟩ := bindS hv1
   replace hg97 := iteT hg97
   cases hg97
   obtain ⟨c13, hg98, hv1⟩ := bindS hv1
   replace hg98 := iteT hg98
   cases hg98
   obtain ⟨c14, hg99, hv1⟩ := bindS hv1
   replace hg99 := iteT hg99
   cases hg99
   cases hv1
   exact wt ⟨lr, Q8⟩ J1 rfl
  cases hg96
  obtain ⟨c12, hg100, hv1⟩ := bindS hv1
  refine Br.itf hg100 (fun hb hg100 => ?_) fun hb hg100 => ?_
  ·cases hg100
   obtain ⟨c13, hg101, hv1⟩ := bindS hv1
   replace hg101 := iteT hg101
   cases hg101
   obtain ⟨c14, hg102, hv1⟩ := bindS hv1
   replace hg102 := iteT hg102
   cases hg102
   cases hv1
   exact wt ⟨lr, Q8⟩ J1 rfl
  cases hg100
  obtain ⟨c13, hg103, hv1⟩ := bindS hv1
  refine Br.itf hg103 (fun hb hg103 => ?_) fun hb hg103 => ?_
  ·cases hg103
   obtain ⟨c14, hg104, hv1⟩ := bindS hv1
   replace hg104 := iteT hg104
   cases hg104
   cases hv1
   exact wt ⟨lr, Q8⟩ J1 rfl
  cases hg103
  obtain ⟨c14, hg105, hv1⟩ := bindS hv1
  refine Br.itf hg105 (fun hb hg105 => ?_) fun hb hg105 => ?_
  ·cases hg105
   cases hv1
   exact wt ⟨lr, Q8⟩ J1 rfl
  cases hg105
  cases hv1
  exact wt ⟨lr, Q8⟩ J1 rfl
 refine cn 226 (v1) rfl h (fun hb h => ?_) fun hb h => ?_
 ·refine sg ?_
  refine wE [(0, vb false)] Q1 ?_
  refine rt ?_
  cases h
  exact Fz.v
 refine sk ?_
 obtain ⟨v2, hv2, h⟩ := bindS h
 refine Ok.seqw ⟨Cat.tab [(0, vb v2)], []⟩ ?_ ?_
 ·refine rg ?_
  obtain ⟨c15, hg106, hv2⟩ := bindS hv2
  refine Br.ite hg106 (fun hb hg106 => ?_) fun hb hg106 => ?_
  ·cases hg106
   obtain ⟨c16, hg107, hv2⟩ := bindS hv2
   refine Br.ite hg107 (fun hb hg107 => ?_) fun hb hg107 => ?_
   ·cases hg107
    obtain ⟨c17, hg108, hv2⟩ := bindS hv2
    refine Br.ite hg108 (fun hb hg108 => ?_) fun hb hg108 => ?_
    ·cases hg108
     obtain ⟨c18, hg109, hv2⟩ := bindS hv2
     refine Br.ite hg109 (fun hb hg109 => ?_) fun hb hg109 => ?_
     ·cases hg109
      obtain ⟨c19, hg110, hv2⟩ := bindS hv2
      refine Br.ite hg110 (fun hb hg110 => ?_) fun hb hg110 => ?_
      ·cases hg110
       obtain ⟨c20, hg111, hv2⟩ := bindS hv2
       refine Br.ite hg111 (fun hb hg111 => ?_) fun hb hg111 => ?_
       ·obtain ⟨x31, hx31, hg111⟩ := bindS hg111
        refine ⟨_, rfl, ?_⟩
        refine CallOk.call (w_chain_Right hx31) (LeL.refl _) ?_
        cases hg111
        obtain ⟨c21, hg112, hv2⟩ := bindS hv2
        refine Br.ite hg112 (fun hb hg112 => ?_) fun hb hg112 => ?_
        ·obtain ⟨x32, hx32, hg112⟩ := bindS hg112
         refine CallOk.call (w_chain_Right hx32) (.cons (Le.a (.cons (lr) (.cons (lr) (.cons (Le.nil) (.nil))))) (.cons (lr) (.nil))) ?_
         cases hg112
         cases hv2
         exact wt Q1 Q0 rfl
        cases hg112
        cases hv2
        exact wt Q1 Q0 rfl
       cases hg111
       obtain ⟨c21, hg113, hv2⟩ := bindS hv2
       replace hg113 := iteF hg113
       cases hg113
       cases hv2
       exact wt Q1 Q0 rfl
      cases hg110
      obtain ⟨c20, hg114, hv2⟩ := bindS hv2
      replace hg114 := iteF hg114
      cases hg114
      obtain ⟨c21, hg115, hv2⟩ := bindS hv2
      replace hg115 := iteF hg115
      cases hg115
      cases hv2
      exact wt Q1 Q0 rfl
     cases hg109
     obtain ⟨c19, hg116, hv2⟩ := bindS hv2
     replace hg116 := iteF hg116
     cases hg116
     obtain ⟨c20, hg117, hv2⟩ := bindS hv2
     replace hg117 := iteF hg117
     cases hg117
     obtain ⟨c21, hg118, hv2⟩ := bindS hv2
     replace hg118 := iteF hg118
     cases hg118
     cases hv2
     exact wt Q1 Q0 rfl
    cases hg108
    obtain ⟨c18, hg119, hv2⟩ := bindS hv2
    replace hg119 := iteF hg119
    cases hg119
    obtain ⟨c19, hg120, hv2⟩ := bindS hv2
    replace hg120 := iteF hg120
    cases hg120
    obtain ⟨c20, hg121, hv2⟩ := bindS hv2
    replace hg121 := iteF hg121
    cases hg121
    obtain ⟨c21, hg122, hv2⟩ := bindS hv2
    replace hg122 := iteF hg122
    cases hg122
    cases hv2
    exact wt Q1 Q0 rfl
   cases hg107
   obtain ⟨c17, hg123, hv2⟩ := bindS hv2
   replace hg123 := iteF hg123
   cases hg123
   obtain ⟨c18, hg124, hv2⟩ := bindS hv2
   replace hg124 := iteF hg124
   cases hg124
   obtain ⟨c19, hg125, hv2⟩ := bindS hv2
   replace hg125 := iteF hg125
   cases hg125
   obtain ⟨c20, hg126, hv2⟩ := bindS hv2
   replace hg126 := iteF hg126
   cases hg126
   obtain ⟨c21, hg127, hv2⟩ := bindS hv2
   replace hg127 := iteF hg127
   cases hg127
   cases hv2
   exact wt Q1 Q0 rfl
  cases hg106
  obtain ⟨c16, hg128, hv2⟩ := bindS hv2
  replace hg128 := iteF hg128
  cases hg128
  obtain ⟨c17, hg129, hv2⟩ := bindS hv2
  replace hg129 := iteF hg129
  cases hg129
  obtain ⟨c18, hg130, hv2⟩ := bindS hv2
  replace hg130 := iteF hg130
  cases hg130
  obtain ⟨c19, hg131, hv2⟩ := bindS hv2
  replace hg131 := iteF hg131
  cases hg131
  obtain ⟨c20, hg132, hv2⟩ := bindS hv2
  replace hg132 := iteF hg132
  cases hg132
  obtain ⟨c21, hg133, hv2⟩ := bindS hv2
  replace hg133 := iteF hg133
  cases hg133
  cases hv2
  exact wt Q1 Q0 rfl
 refine rt ?_
 cases h
 exact Fz.v
theorem w_ref26_Has {p_l} {p_x} {r} (h : ref26_Has p_l p_x = some r) : Pure Tryz.prog 34 [(.s (mI p_l)), (vi p_x)] (vb r) := by
 refine po Tryz.tok 18 Tryz.func34 (by kernel_rfl) rfl rfl rfl ?_
 unfold ref26_Has at h
 refine wE [(0, .s (mI p_l)), (1, vi p_x)] Q2 ?_
 refine sg ?_
 refine wE [(0, .s (mI p_l)), (1, vi p_x)] Q2 ?_
 refine Ok.seqj (fun v1 => ⟨Cat.tab [], []⟩) (fun v1 => ref26_Has_J1 v1 = some r) ?_ ?_
 ·refine sg ?_
  refine wE [(0, .s (mI p_l)), (1, vi p_x), (5, vi (0))] Q3 ?_
  refine bl ?_
  refine Ok.loop (fun (s1 : Int) => ⟨Cat.tab [(0, .s (mI p_l)), (1, vi p_x), (5, vi s1)], []⟩) (ref26_Has_B1 p_l p_x) (s0 := 0) h (wt Q3 Q0 rfl) ?_
  intro s1 y1 hB1 hy1
  unfold ref26_Has_B1 at hB1
  refine sq ?_
  refine sg ?_
  refine ⟨_, List.length_map _, fun _ => ?_⟩
  refine wE [(0, .s (mI p_l)), (1, vi p_x), (5, vi s1), (9, vb (decide (s1 < (p_l.length : Int))))] Q4 ?_
  refine cn 9 (decide (s1 < (p_l.length : Int))) rfl hB1 (fun hb hB1 => ?_) fun hb hB1 => ?_
  ·refine sk ?_
   refine sq ?_
   refine bl ?_
   refine sg ?_
   obtain ⟨x1, hx1, hB1⟩ := bindS hB1
   refine ⟨_, idx_nat hx1, _, idx_row hx1, _, rfl, ?_⟩
   refine wE [(0, .s (mI p_l)), (1, vi p_x), (5, vi s1), (17, vb (x1 == p_x))] Q4 ?_
   refine cn 17 (x1 == p_x) rfl hB1 (fun hb hB1 => ?_) fun hb hB1 => ?_
   ·refine sg ?_
    refine wE [(4, vb true)] Q1 ?_
    refine rt ?_
    have hB1 := out_ret hB1 hy1
    cases hB1
    exact Fz.v
   refine sk ?_
   refine rg ?_
   obtain ⟨hc1, hB1⟩ := chk_some hB1
   refine (Or.inl ⟨hc1, ?_⟩)
   exact ⟨_, sj hB1, wt Q3 Q0 rfl⟩
  refine xt ?_
  have hB1 := out_ret hB1 hy1
  exact ⟨_, hB1, wt Q0 Q0 rfl⟩
 intro v1 h
 unfold ref26_Has_J1 at h
 refine sg ?_
 refine wE [(4, vb false)] Q1 ?_
 refine rt ?_
 cases h
 exact Fz.v
theorem w_ref26_Right {p_c} {p_disks} {r} (h : ref26_Right p_c p_disks = some r) : Pure Tryz.prog 15 [(.a [(vi p_c.Id), (vi p_c.Ver), (.s (mI p_c.Servers))]), (.s (mA p_disks))] (vb r) := by
 refine po Tryz.tok 73 Tryz.func15 (by kernel_rfl) rfl rfl rfl ?_
 unfold ref26_Right at h
 refine wE [(0, .a [vi p_c.Id, vi p_c.Ver, .s (mI p_c.Servers)]), (1, .s (mA p_disks))] Q2 ?_
 refine sg ?_
 refine wT [(1, .s (mA p_disks)), (2, .b 2 0)] [(2, .box [vi p_c.Id, vi p_c.Ver, .s (mI p_c.Servers)])] Q2 J1 rfl ?_
 refine Ok.seqj (fun v1 => ⟨Cat.tab [(2, .b 2 0)], [(2, .box [vi p_c.Id, vi p_c.Ver, .s (mI p_c.Servers)])]⟩) (fun v1 => ref26_Right_J1 p_c v1 = some r) ?_ ?_
 ·refine sg ?_
  refine wT [(1, .s (mA p_disks)), (2, .b 2 0), (5, vi (0))] [(2, .box [vi p_c.Id, vi p_c.Ver, .s (mI p_c.Servers)])] Q3 J1 rfl ?_
  refine bl ?_
  refine Ok.loop (fun (s1 : Int) => ⟨Cat.tab [(1, .s (mA p_disks)), (2, .b 2 0), (5, vi s1)], [(2, .box [vi p_c.Id, vi p_c.Ver, .s (mI p_c.Servers)])]⟩) (ref26_Right_B1 p_c p_disks) (s0 := 0) h (wt Q3 ⟨⟨_, rfl, .refl _⟩, Q0⟩ rfl) ?_
  intro s1 y1 hB1 hy1
  unfold ref26_Right_B1 at hB1
  refine sq ?_
  refine sg ?_
  refine ⟨_, rfl, _, List.length_map _, fun _ => ?_⟩
  refine wT [(1, .s (mA p_disks)), (2, .b 2 0), (5, vi s1), (11, vb (decide (s1 < (p_c.Servers.length : Int))))] [(2, .box [vi p_c.Id, vi p_c.Ver, .s (mI p_c.Servers)])] Q4 J1 rfl ?_
  refine cn 11 (decide (s1 < (p_c.Servers.length : Int))) rfl hB1 (fun hb hB1 => ?_) fun hb hB1 => ?_
  ·refine sk ?_
   refine sq ?_
   refine bl ?_
   refine sq ?_
   refine Ok.draw (m := 11) (MD := ⟨[]⟩) (CH := ⟨[]⟩) Tryz.tok Tryz.mixed (by kernel_rfl) ?_
   obtain ⟨hc1, hB1⟩ := chk_some hB1
   obtain ⟨x1, hx1, hB1⟩ := bindS hB1
   obtain ⟨x2, hx2, hB1⟩ := bindS hB1
   refine ⟨_, rfl, _, ⟨_, rfl, rfl⟩, _, rfl, _, ⟨_, sl_nat hc1.1, Nat.zero_le _, sl_len hc1, rowsK (f := Go.Cat.encI) (K := 1) (fun _ => rfl) p_c.Servers, _, sl_take _ _ _, rfl⟩, _, rfl, _, ⟨_, rfl, rfl⟩, _, rfl, _, ⟨_, idx_nat hx1, _, idx_row hx1, rfl⟩, _, ⟨_, rfl, rfl⟩, _, ⟨_, .of_pure (w_ref26_Has hx2) (LeL.refl _), rfl⟩, _, rfl, Q0, ?_⟩
   refine wT [(1, .s (mA p_disks)), (2, .b 2 0), (5, vi s1), (6, vb x2)] [(2, .box [vi p_c.Id, vi p_c.Ver, .s (mI p_c.Servers)])] Q4 J1 rfl ?_
   obtain ⟨v2, hv2, hB1⟩ := bindS hB1
   refine Ok.seqw ⟨Cat.tab [(1, .s (mA p_disks)), (2, .b 2 0), (5, vi s1), (42, vb v2)], [(2, .box [vi p_c.Id, vi p_c.Ver, .s (mI p_c.Servers)])]⟩ ?_ ?_
   ·refine rg ?_
    obtain ⟨c1, hg1, hv2⟩ := bindS hv2
    refine Br.itf hg1 (fun hb hg1 => ?_) fun hb hg1 => ?_
    ·cases hg1
     obtain ⟨c2, hg2, hv2⟩ := bindS hv2
     replace hg2 := iteT hg2
     cases hg2
     cases hv2
     exact wt Q4 J1 rfl
    obtain ⟨x3, hx3, hg1⟩ := bindS hg1
    refine ⟨_, rfl, _, idx_nat hx3, _, idx_row hx3, _, rfl, ?_⟩
    cases hg1
    obtain ⟨c2, hg3, hv2⟩ := bindS hv2
    refine Br.itf hg3 (fun hb hg3 => ?_) fun hb hg3 => ?_
    ·cases hg3
     cases hv2
     exact wt Q4 J1 rfl
    obtain ⟨x4, hx4, hg3⟩ := bindS hg3
    refine ⟨_, rfl, _, idx_nat hx4, _, idx_row hx4, _, rfl, _, List.length_map _, fun _ => ?_⟩
    cases hg3
    cases hv2
    exact wt Q4 J1 rfl
   refine cn 42 (v2) rfl hB1 (fun hb hB1 => ?_) fun hb hB1 => ?_
   ·refine sg ?_
    refine wE [(4, vb false)] Q1 ?_
    refine rt ?_
    have hB1 := out_ret hB1 hy1
    cases hB1
    exact Fz.v
   refine sk ?_
   refine rg ?_
   obtain ⟨hc2, hB1⟩ := chk_some hB1
   refine (Or.inl ⟨hc2, ?_⟩)
   exact ⟨_, sj hB1, wt Q3 J1 rfl⟩
  refine xt ?_
  have hB1 := out_ret hB1 hy1
  exact ⟨_, hB1, wt Q1 ⟨⟨_, rfl, .refl _⟩, Q0⟩ rfl⟩
 intro v1 h
 unfold ref26_Right_J1 at h
 obtain ⟨v3, hv3, h⟩ := bindS h
 refine Ok.seqw ⟨Cat.tab [(4, vb v3)], []⟩ ?_ ?_
 ·refine rg ?_
  refine ⟨_, rfl, ?_⟩
  obtain ⟨c3, hg4, hv3⟩ := bindS hv3
  refine Br.ite hg4 (fun hb hg4 => ?_) fun hb hg4 => ?_
  ·refine ⟨_, rfl, ?_⟩
   cases hg4
   obtain ⟨c4, hg5, hv3⟩ := bindS hv3
   refine Br.ite hg5 (fun hb hg5 => ?_) fun hb hg5 => ?_
   ·refine ⟨_, rfl, ?_⟩
    cases hg5
    obtain ⟨c5, hg6, hv3⟩ := bindS hv3
    refine Br.ite hg6 (fun hb hg6 => ?_) fun hb hg6 => ?_
    ·refine ⟨_, rfl, ?_⟩
     cases hg6
     obtain ⟨c6, hg7, hv3⟩ := bindS hv3
     refine Br.ite hg7 (fun hb hg7 => ?_) fun hb hg7 => ?_
     ·refine ⟨_, rfl, _, List.length_map _, fun _ => ?_⟩
      cases hg7
      obtain ⟨c7, hg8, hv3⟩ := bindS hv3
      refine Br.ite hg8 (fun hb hg8 => ?_) fun hb hg8 => ?_
      ·refine ⟨_, rfl, _, List.length_map _, fun _ => ?_⟩
       cases hg8
       cases hv3
       exact wt Q1 Q0 rfl
      cases hg8
      cases hv3
      exact wt Q1 Q0 rfl
     cases hg7
     obtain ⟨c7, hg9, hv3⟩ := bindS hv3
     replace hg9 := iteF hg9
     cases hg9
     cases hv3
     exact wt Q1 Q0 rfl
    cases hg6
    obtain ⟨c6, hg10, hv3⟩ := bindS hv3
    replace hg10 := iteF hg10
    cases hg10
    obtain ⟨c7, hg11, hv3⟩ := bindS hv3
    replace hg11 := iteF hg11
    cases hg11
    cases hv3
    exact wt Q1 Q0 rfl
   cases hg5
   obtain ⟨c5, hg12, hv3⟩ := bindS hv3
   replace hg12 := iteF hg12
   cases hg12
   obtain ⟨c6, hg13, hv3⟩ := bindS hv3
   replace hg13 := iteF hg13
   cases hg13
   obtain ⟨c7, hg14, hv3⟩ := bindS hv3
   replace hg14 := iteF hg14
   cases hg14
   cases hv3
   exact wt Q1 Q0 rfl
  cases hg4
  obtain ⟨c4, hg15, hv3⟩ := bindS hv3
  replace hg15 := iteF hg15
  cases hg15
  obtain ⟨c5, hg16, hv3⟩ := bindS hv3
  replace hg16 := iteF hg16
  cases hg16
  obtain ⟨c6, hg17, hv3⟩ := bindS hv3
  replace hg17 := iteF hg17
  cases hg17
  obtain ⟨c7, hg18, hv3⟩ := bindS hv3
  replace hg18 := iteF hg18
  cases hg18
  cases hv3
  exact wt Q1 Q0 rfl
 refine rt ?_
 cases h
 exact Fz.v
theorem w_ref02_turned {p_a} {p_b} {r} (h : ref02_turned p_a p_b = some r) : Pure Tryz.prog 134 [(vi p_a), (vi p_b)] (vi r) := by
 refine po Tryz.tok 8 Tryz.func134 (by kernel_rfl) rfl rfl rfl ?_
 unfold ref02_turned at h
 refine wE [(0, vi p_a), (1, vi p_b)] Q2 ?_
 refine sg ?_
 refine wE [(0, vi p_a), (1, vi p_b)] Q2 ?_
 refine sg ?_
 refine ⟨_, rfl, ?_⟩
 refine wE [(4, vi (xorK .i64 p_a p_b))] Q1 ?_
 refine rt ?_
 cases h
 exact Fz.v
theorem w_ref02_Of {p_b} {r} (h : ref02_Of p_b = some r) : Pure Tryz.prog 112 [(.s (mU p_b))] (vi r) := by
 refine po Tryz.tok 34 Tryz.func112 (by kernel_rfl) rfl rfl rfl ?_
 unfold ref02_Of at h
 refine wE [(0, .s (mU p_b))] Q1 ?_
 refine sg ?_
 refine wE [(0, .s (mU p_b))] Q1 ?_
 refine sg ?_
 refine wE [(0, .s (mU p_b)), (3, vi (4294967295))] Q2 ?_
 obtain ⟨v1, hv1, h⟩ := bindS h
 refine Ok.seqw ⟨Cat.tab [(3, vi v1)], []⟩ ?_ ?_
 ·refine sg ?_
  refine wE [(0, .s (mU p_b)), (3, vi (4294967295)), (4, vi (0))] Q3 ?_
  refine bl ?_
  refine Ok.loop (fun (s1 : Int × Int) => ⟨Cat.tab [(0, .s (mU p_b)), (3, vi s1.1), (4, vi s1.2)], []⟩) (ref02_Of_B1 p_b) (s0 := (4294967295, 0)) hv1 (wt Q3 Q0 rfl) ?_
  intro s1 y1 hB1 hy1
  unfold ref02_Of_B1 at hB1
  refine sq ?_
  refine sg ?_
  refine ⟨_, List.length_map _, fun _ => ?_⟩
  refine wE [(0, .s (mU p_b)), (3, vi s1.1), (4, vi s1.2), (10, vb (decide (s1.2 < (p_b.length : Int))))] Q4 ?_
  refine cn 10 (decide (s1.2 < (p_b.length : Int))) rfl hB1 (fun hb hB1 => ?_) fun hb hB1 => ?_
  ·refine sk ?_
   obtain ⟨v2, hv2, hB1⟩ := bindS hB1
   refine Ok.seqw ⟨Cat.tab [(0, .s (mU p_b)), (3, vi v2), (4, vi s1.2)], []⟩ ?_ ?_
   ·refine bl ?_
    refine sg ?_
    obtain ⟨x1, hx1, hv2⟩ := bindS hv2
    obtain ⟨x2, hx2, hv2⟩ := bindS hv2
    refine ⟨_, idx_nat hx1, _, idx_row hx1, _, rfl, _, wrap_of_u8 (k := .i64) (by decide) _, ?_⟩
    refine CallOk.call (w_ref02_turned hx2) (LeL.refl _) ?_
    refine wE [(0, .s (mU p_b)), (3, vi x2), (4, vi s1.2)] Q3 ?_
    refine sg ?_
    refine wE [(0, .s (mU p_b)), (3, vi x2), (4, vi s1.2), (5, vi (0))] Q4 ?_
    refine bl ?_
    refine Ok.loop (fun (s2 : Int × Int) => ⟨Cat.tab [(0, .s (mU p_b)), (3, vi s2.1), (4, vi s1.2), (5, vi s2.2)], []⟩) (ref02_Of_B2) (s0 := (x2, 0)) hv2 (wt Q4 Q0 rfl) ?_
    intro s2 y2 hB2 hy2
    unfold ref02_Of_B2 at hB2
    refine sq ?_
    refine sg ?_
    refine wE [(0, .s (mU p_b)), (3, vi s2.1), (4, vi s1.2), (5, vi s2.2), (21, vb (decide (s2.2 < 8)))] Q5 ?_
    refine cn 21 (decide (s2.2 < 8)) rfl hB2 (fun hb hB2 => ?_) fun hb hB2 => ?_
    ·refine sk ?_
     obtain ⟨v3, hv3, hB2⟩ := bindS hB2
     refine Ok.seqw ⟨Cat.tab [(0, .s (mU p_b)), (3, vi v3), (4, vi s1.2), (5, vi s2.2)], []⟩ ?_ ?_
     ·refine bl ?_
      refine sg ?_
      refine ⟨(by decide), _, rfl, ?_⟩
      refine wE [(0, .s (mU p_b)), (3, vi s2.1), (4, vi s1.2), (5, vi s2.2), (6, vb ((Int.tmod s2.1 (2)) == 1))] Q5 ?_
      refine sg ?_
      refine ⟨(by decide), _, rfl, ?_⟩
      refine wE [(0, .s (mU p_b)), (3, vi (quoK .i64 s2.1 (2))), (4, vi s1.2), (5, vi s2.2), (6, vb ((Int.tmod s2.1 (2)) == 1))] Q5 ?_
      refine sg ?_
      refine wE [(0, .s (mU p_b)), (3, vi (quoK .i64 s2.1 (2))), (4, vi s1.2), (5, vi s2.2), (29, vb ((Int.tmod s2.1 (2)) == 1))] Q5 ?_
      refine cn 29 ((Int.tmod s2.1 (2)) == 1) rfl hv3 (fun hb hv3 => ?_) fun hb hv3 => ?_
      ·refine rg ?_
       obtain ⟨x3, hx3, hv3⟩ := bindS hv3
       refine CallOk.call (w_ref02_turned hx3) (LeL.refl _) ?_
       cases hv3
       exact wt Q4 Q0 rfl
      refine sk ?_
      cases hv3
      exact wt Q4 Q0 rfl
     refine rg ?_
     obtain ⟨hc1, hB2⟩ := chk_some hB2
     refine (Or.inl ⟨hc1, ?_⟩)
     exact ⟨_, sj hB2, wt Q4 Q0 rfl⟩
    refine xt ?_
    have hB2 := out_ret hB2 hy2
    cases hB2
    exact wt Q3 Q0 rfl
   refine rg ?_
   obtain ⟨hc2, hB1⟩ := chk_some hB1
   refine (Or.inl ⟨hc2, ?_⟩)
   exact ⟨_, sj hB1, wt Q3 Q0 rfl⟩
  refine xt ?_
  have hB1 := out_ret hB1 hy1
  cases hB1
  exact wt Q1 Q0 rfl
 refine sg ?_
 obtain ⟨x4, hx4, h⟩ := bindS h
 refine CallOk.call (w_ref02_turned hx4) (LeL.refl _) ?_
 refine wE [(2, vi x4)] Q1 ?_
 refine rt ?_
 cases h
 exact Fz.v
theorem wo_ref02_Blocks {p_data} {r} (h : ref02_Blocks p_data = some r) : POwn Tryz.prog 87 [(.s (mU p_data))] 3 1 (mI r) := by
 refine pw Tryz.tok 24 Tryz.func87 (by kernel_rfl) rfl rfl rfl ?_
 unfold ref02_Blocks at h
 refine wE [(0, .s (mU p_data))] Q1 ?_
 refine sg ?_
 refine wE [(0, .s (mU p_data))] Q1 ?_
 refine sg ?_
 refine wE [(0, .s (mU p_data)), (3, .v (.slice none 0 0))] Q2 ?_
 obtain ⟨v1, hv1, h⟩ := bindS h
 refine Ok.seqw ⟨Cat.tab [(3, .o 22)], [(22, .own 3 1 (mI v1))]⟩ ?_ ?_
 ·refine sg ?_
  refine wE [(0, .s (mU p_data)), (3, .v (.slice none 0 0)), (4, vi (0))] Q3 ?_
  refine bl ?_
  refine Ok.loop (fun (s1 : Int × (List Int)) => ⟨Cat.tab [(0, .s (mU p_data)), (3, .o 22), (4, vi s1.1)], [(22, .own 3 1 (mI s1.2))]⟩) (ref02_Blocks_B1 p_data) (s0 := (0, [])) hv1 ((Wk.own0 (t := 3) (id := 22) (E := 3) (K := 1) rfl rfl).trans (wt Q3 ⟨⟨_, rfl, .refl _⟩, Q0⟩ rfl)) ?_
  intro s1 y1 hB1 hy1
  unfold ref02_Blocks_B1 at hB1
  refine sq ?_
  refine sg ?_
  refine ⟨_, List.length_map _, fun _ => ?_⟩
  refine wT [(0, .s (mU p_data)), (3, .o 22), (4, vi s1.1), (8, vb (decide (s1.1 < (p_data.length : Int))))] [(22, .own 3 1 (mI s1.2))] Q4 J1 rfl ?_
  refine cn 8 (decide (s1.1 < (p_data.length : Int))) rfl hB1 (fun hb hB1 => ?_) fun hb hB1 => ?_
  ·refine sk ?_
   refine sq ?_
   refine bl ?_
   refine rg ?_
   obtain ⟨hc1, hB1⟩ := chk_some hB1
   obtain ⟨hc2, hB1⟩ := chk_some hB1
   obtain ⟨x1, hx1, hB1⟩ := bindS hB1
   refine (Or.inl ⟨hc1, _, List.length_map _, fun _ => ⟨_, rfl, _, sl_nat hc2.1, _, sl_nat (sl_lh hc2), sl_le hc2, sl_len3 hc2, rowsK (f := cU8) (K := 1) (fun _ => rfl) p_data, _, sl_sub _ _ _ _, ?_⟩⟩)
   refine CallOk.call (w_ref02_Of hx1) (LeL.refl _) ?_
   obtain ⟨hc3, hB1⟩ := chk_some hB1
   refine Or.inl ⟨rowsLen_map (f := Go.Cat.encI) (n := 1) (fun _ => rfl) ([x1]), app_b2 (f := Go.Cat.encI) (l := s1.2) (l' := [x1]) hc3, _, (List.map_append (f := Go.Cat.encI) (l₁ := s1.2) (l₂ := [x1])).symm, ?_⟩
   refine wT [(0, .s (mU p_data)), (3, .o 22), (4, vi s1.1)] [(22, .own 3 1 (mI (s1.2 ++ [x1])))] Q3 J1 rfl ?_
   refine rg ?_
   obtain ⟨hc4, hB1⟩ := chk_some hB1
   refine (Or.inl ⟨hc4, ?_⟩)
   exact ⟨_, sj hB1, wt Q3 J1 rfl⟩
  refine xt ?_
  have hB1 := out_ret hB1 hy1
  cases hB1
  exact wt Q1 J1 rfl
 refine sg ?_
 refine wT [(2, .o 22)] [(22, .own 3 1 (mI v1))] Q1 J1 rfl ?_
 refine rt ?_
 cases h
 exact (.inr ⟨_, rfl, rfl⟩)
theorem w_ref02_Blocks {p_data} {r} (h : ref02_Blocks p_data = some r) : Pure Tryz.prog 87 [(.s (mU p_data))] (.s (mI r)) := (wo_ref02_Blocks h).pure
theorem w_ref25_New {p_id} {p_ver} {p_data} {r} (h : ref25_New p_id p_ver p_data = some r) : Pure Tryz.prog 64 [(vi p_id), (vi p_ver), (.s (mU p_data))] (.a [(vi r.Id), (vi r.Ver), (.s (mU r.Data)), (.s (mI r.Sums))]) := by
 refine po Tryz.tok 13 Tryz.func64 (by kernel_rfl) rfl rfl rfl ?_
 unfold ref25_New at h
 refine wE [(0, vi p_id), (1, vi p_ver), (2, .s (mU p_data))] Q3 ?_
 refine sg ?_
 refine wT [(0, vi p_id), (1, vi p_ver), (2, .s (mU p_data)), (6, .b 6 0)] [(6, .box [vi (0), vi (0), .v (.slice none 0 0), .v (.slice none 0 0)])] Q4 J1 rfl ?_
 refine sg ?_
 obtain ⟨x1, hx1, h⟩ := bindS h
 refine CallOk.call (w_ref02_Blocks hx1) (LeL.refl _) ?_
 refine ⟨_, rfl, ?_⟩
 refine wT [(6, .b 6 0)] [(6, .box [vi p_id, vi p_ver, .s (mU p_data), .s (mI x1)])] Q1 J1 rfl ?_
 refine rt ?_
 cases h
 exact ⟨_, rfl, (Fz.imm rfl)⟩
theorem w_ref02_Check {p_data} {p_sums} {r} (h : ref02_Check p_data p_sums = some r) : Pure Tryz.prog 108 [(.s (mU p_data)), (.s (mI p_sums))] (vi r) := by
 refine po Tryz.tok 43 Tryz.func108 (by kernel_rfl) rfl rfl rfl ?_
 unfold ref02_Check at h
 refine wE [(0, .s (mU p_data)), (1, .s (mI p_sums))] Q2 ?_
 refine sg ?_
 refine wE [(0, .s (mU p_data)), (1, .s (mI p_sums))] Q2 ?_
 refine sg ?_
 obtain ⟨x1, hx1, h⟩ := bindS h
 refine CallOk.call (w_ref02_Blocks hx1) (LeL.refl _) ?_
 refine wE [(1, .s (mI p_sums)), (5, .s (mI x1))] Q2 ?_
 refine Ok.seqj (fun v1 => ⟨Cat.tab [], []⟩) (fun v1 => ref02_Check_J1 v1 = some r) ?_ ?_
 ·refine sg ?_
  refine wE [(1, .s (mI p_sums)), (5, .s (mI x1)), (6, vi (0))] Q3 ?_
  refine bl ?_
  refine Ok.loop (fun (s1 : Int) => ⟨Cat.tab [(1, .s (mI p_sums)), (5, .s (mI x1)), (6, vi s1)], []⟩) (ref02_Check_B1 x1 p_sums) (s0 := 0) h (wt Q3 Q0 rfl) ?_
  intro s1 y1 hB1 hy1
  unfold ref02_Check_B1 at hB1
  refine sq ?_
  obtain ⟨v2, hv2, hB1⟩ := bindS hB1
  refine Ok.seqw ⟨Cat.tab [(1, .s (mI p_sums)), (5, .s (mI x1)), (6, vi s1), (18, vb v2)], []⟩ ?_ ?_
  ·refine rg ?_
   refine ⟨_, List.length_map _, fun _ => ?_⟩
   obtain ⟨c1, hg1, hv2⟩ := bindS hv2
   refine Br.itf hg1 (fun hb hg1 => ?_) fun hb hg1 => ?_
   ·cases hg1
    cases hv2
    exact wt Q4 Q0 rfl
   refine ⟨_, List.length_map _, fun _ => ?_⟩
   cases hg1
   cases hv2
   exact wt Q4 Q0 rfl
  refine cn 18 (v2) rfl hB1 (fun hb hB1 => ?_) fun hb hB1 => ?_
  ·refine sk ?_
   refine sq ?_
   refine bl ?_
   obtain ⟨v3, hv3, hB1⟩ := bindS hB1
   refine Ok.seqw ⟨Cat.tab [(1, .s (mI p_sums)), (5, .s (mI x1)), (6, vi s1), (41, vb v3)], []⟩ ?_ ?_
   ·refine Ok.draw (m := 21) (MD := ⟨[]⟩) (CH := ⟨[]⟩) Tryz.tok Tryz.mixed (by kernel_rfl) ?_
    refine ⟨_, rfl, _, rfl, _, ⟨_, List.length_map _, fun _ => rfl⟩, _, rfl, _, rfl, ?_⟩
    obtain ⟨c2, hg2, hv3⟩ := bindS hv3
    refine Br.itf hg2 (fun hb hg2 => ?_) fun hb hg2 => ?_
    ·cases hg2
     refine ⟨_, rfl, ?_⟩
     refine ⟨_, rfl, ?_⟩
     obtain ⟨c3, hg3, hv3⟩ := bindS hv3
     replace hg3 := iteT hg3
     cases hg3
     refine ⟨_, rfl, ?_⟩
     refine ⟨Q0, ?_⟩
     cases hv3
     exact wt Q4 Q0 rfl
    refine ⟨_, rfl, _, rfl, _, ⟨_, List.length_map _, fun _ => rfl⟩, _, rfl, ?_⟩
    cases hg2
    refine ⟨_, rfl, ?_⟩
    refine ⟨_, rfl, ?_⟩
    obtain ⟨c3, hg4, hv3⟩ := bindS hv3
    refine Br.itf hg4 (fun hb hg4 => ?_) fun hb hg4 => ?_
    ·cases hg4
     refine ⟨_, rfl, ?_⟩
     refine ⟨Q0, ?_⟩
     cases hv3
     exact wt Q4 Q0 rfl
    obtain ⟨x2, hx2, hg4⟩ := bindS hg4
    obtain ⟨x3, hx3, hg4⟩ := bindS hg4
    refine ⟨_, rfl, _, rfl, _, ⟨_, idx_nat hx2, _, idx_row hx2, rfl⟩, _, ⟨_, rfl, rfl⟩, _, rfl, _, rfl, _, ⟨_, idx_nat hx3, _, idx_row hx3, rfl⟩, _, ⟨_, rfl, rfl⟩, _, rfl, ?_⟩
    cases hg4
    refine ⟨_, rfl, ?_⟩
    refine ⟨Q0, ?_⟩
    cases hv3
    exact wt Q4 Q0 rfl
   refine cn 41 (v3) rfl hB1 (fun hb hB1 => ?_) fun hb hB1 => ?_
   ·refine sg ?_
    refine wE [(4, vi s1)] Q1 ?_
    refine rt ?_
    have hB1 := out_ret hB1 hy1
    cases hB1
    exact Fz.v
   refine sk ?_
   refine rg ?_
   obtain ⟨hc1, hB1⟩ := chk_some hB1
   refine (Or.inl ⟨hc1, ?_⟩)
   exact ⟨_, sj hB1, wt Q3 Q0 rfl⟩
  refine xt ?_
  have hB1 := out_ret hB1 hy1
  exact ⟨_, hB1, wt Q0 Q0 rfl⟩
 intro v1 h
 unfold ref02_Check_J1 at h
 refine sg ?_
 refine wE [(4, vi (-1))] Q1 ?_
 refine rt ?_
 cases h
 exact Fz.v
theorem w_ref25_May {p_c} {r} (h : ref25_May p_c = some r) : Pure Tryz.prog 76 [(.a [(vi p_c.Id), (vi p_c.Ver), (.s (mU p_c.Data)), (.s (mI p_c.Sums))])] (vb r) := by
 refine po Tryz.tok 35 Tryz.func76 (by kernel_rfl) rfl rfl rfl ?_
 unfold ref25_May at h
 refine wE [(0, .a [vi p_c.Id, vi p_c.Ver, .s (mU p_c.Data), .s (mI p_c.Sums)])] Q1 ?_
 refine sg ?_
 refine wT [(1, .b 1 0)] [(1, .box [vi p_c.Id, vi p_c.Ver, .s (mU p_c.Data), .s (mI p_c.Sums)])] Q1 J1 rfl ?_
 obtain ⟨v1, hv1, h⟩ := bindS h
 refine Ok.seqw ⟨Cat.tab [(2, vb v1)], []⟩ ?_ ?_
 ·refine rg ?_
  refine ⟨_, rfl, ?_⟩
  obtain ⟨c1, hg1, hv1⟩ := bindS hv1
  refine Br.ite hg1 (fun hb hg1 => ?_) fun hb hg1 => ?_
  ·refine ⟨_, rfl, ?_⟩
   cases hg1
   obtain ⟨c2, hg2, hv1⟩ := bindS hv1
   refine Br.ite hg2 (fun hb hg2 => ?_) fun hb hg2 => ?_
   ·refine ⟨_, rfl, ?_⟩
    cases hg2
    obtain ⟨c3, hg3, hv1⟩ := bindS hv1
    refine Br.ite hg3 (fun hb hg3 => ?_) fun hb hg3 => ?_
    ·refine ⟨_, rfl, ?_⟩
     cases hg3
     obtain ⟨c4, hg4, hv1⟩ := bindS hv1
     refine Br.ite hg4 (fun hb hg4 => ?_) fun hb hg4 => ?_
     ·refine ⟨_, rfl, _, List.length_map _, fun _ => ?_⟩
      cases hg4
      obtain ⟨c5, hg5, hv1⟩ := bindS hv1
      refine Br.ite hg5 (fun hb hg5 => ?_) fun hb hg5 => ?_
      ·obtain ⟨x1, hx1, hg5⟩ := bindS hg5
       refine ⟨_, rfl, _, rfl, ?_⟩
       refine CallOk.call (w_ref02_Check hx1) (LeL.refl _) ?_
       cases hg5
       cases hv1
       exact wt Q1 Q0 rfl
      cases hg5
      cases hv1
      exact wt Q1 Q0 rfl
     cases hg4
     obtain ⟨c5, hg6, hv1⟩ := bindS hv1
     replace hg6 := iteF hg6
     cases hg6
     cases hv1
     exact wt Q1 Q0 rfl
    cases hg3
    obtain ⟨c4, hg7, hv1⟩ := bindS hv1
    replace hg7 := iteF hg7
    cases hg7
    obtain ⟨c5, hg8, hv1⟩ := bindS hv1
    replace hg8 := iteF hg8
    cases hg8
    cases hv1
    exact wt Q1 Q0 rfl
   cases hg2
   obtain ⟨c3, hg9, hv1⟩ := bindS hv1
   replace hg9 := iteF hg9
   cases hg9
   obtain ⟨c4, hg10, hv1⟩ := bindS hv1
   replace hg10 := iteF hg10
   cases hg10
   obtain ⟨c5, hg11, hv1⟩ := bindS hv1
   replace hg11 := iteF hg11
   cases hg11
   cases hv1
   exact wt Q1 Q0 rfl
  cases hg1
  obtain ⟨c2, hg12, hv1⟩ := bindS hv1
  replace hg12 := iteF hg12
  cases hg12
  obtain ⟨c3, hg13, hv1⟩ := bindS hv1
  replace hg13 := iteF hg13
  cases hg13
  obtain ⟨c4, hg14, hv1⟩ := bindS hv1
  replace hg14 := iteF hg14
  cases hg14
  obtain ⟨c5, hg15, hv1⟩ := bindS hv1
  replace hg15 := iteF hg15
  cases hg15
  cases hv1
  exact wt Q1 Q0 rfl
 refine rt ?_
 cases h
 exact Fz.v
theorem w_ref01_zig {p_n} {r} (h : ref01_zig p_n = some r) : Pure Tryz.prog 133 [(vi p_n)] (.v (.int .u64 r)) := by
 refine po Tryz.tok 14 Tryz.func133 (by kernel_rfl) rfl rfl rfl ?_
 unfold ref01_zig at h
 refine wE [(0, vi p_n)] Q1 ?_
 refine sg ?_
 refine wE [(0, vi p_n)] Q1 ?_
 refine sq ?_
 refine sg ?_
 refine wE [(0, vi p_n), (4, vb (decide (p_n < 0)))] Q2 ?_
 refine cn 4 (decide (p_n < 0)) rfl h (fun hb h => ?_) fun hb h => ?_
 ·refine sg ?_
  obtain ⟨hc1, h⟩ := chk_some h
  obtain ⟨hc2, h⟩ := chk_some h
  refine (Or.inl ⟨hc1, _, InI64.wrap hc2, _, rfl, _, rfl, _, rfl, ?_⟩)
  refine wE [(2, .v (.int .u64 (IntKind.u64.wrap ((IntKind.u64.wrap (2 * (IntKind.u64.wrap (0 - (p_n + 1))))) + 1))))] Q1 ?_
  refine rt ?_
  cases h
  exact Fz.v
 refine sk ?_
 refine sg ?_
 refine ⟨_, rfl, _, rfl, ?_⟩
 refine wE [(2, .v (.int .u64 (IntKind.u64.wrap (2 * (IntKind.u64.wrap p_n)))))] Q1 ?_
 refine rt ?_
 cases h
 exact Fz.v
theorem wo_ref01_Int {p_n} {r} (h : ref01_Int p_n = some r) : POwn Tryz.prog 109 [(vi p_n)] 5 1 (mU r) := by
 refine pw Tryz.tok 25 Tryz.func109 (by kernel_rfl) rfl rfl rfl ?_
 unfold ref01_Int at h
 refine wE [(0, vi p_n)] Q1 ?_
 refine sg ?_
 refine wE [(0, vi p_n)] Q1 ?_
 refine sg ?_
 refine Or.inr ?_
 refine wT [(0, vi p_n), (3, .o 5)] [(5, .own 5 1 (mU ([] : List UInt8)))] Q2 J1 rfl ?_
 refine sg ?_
 obtain ⟨x1, hx1, h⟩ := bindS h
 refine CallOk.call (w_ref01_zig hx1) (LeL.refl _) ?_
 refine wT [(3, .o 5), (4, .v (.int .u64 x1))] [(5, .own 5 1 (mU ([] : List UInt8)))] Q2 J1 rfl ?_
 obtain ⟨v1, hv1, h⟩ := bindS h
 refine Ok.seqw ⟨Cat.tab [(3, .o 5), (4, .v (.int .u64 v1.1))], [(5, .own 5 1 (mU v1.2))]⟩ ?_ ?_
 ·refine bl ?_
  refine Ok.loop (fun (s1 : Int × (List UInt8)) => ⟨Cat.tab [(3, .o 5), (4, .v (.int .u64 s1.1))], [(5, .own 5 1 (mU s1.2))]⟩) (ref01_Int_B1) (s0 := (x1, ([] : List UInt8))) hv1 (wt Q2 ⟨⟨_, rfl, .refl _⟩, Q0⟩ rfl) ?_
  intro s1 y1 hB1 hy1
  unfold ref01_Int_B1 at hB1
  refine sq ?_
  refine sg ?_
  refine wT [(3, .o 5), (4, .v (.int .u64 s1.1)), (9, vb (decide (s1.1 ≥ 128)))] [(5, .own 5 1 (mU s1.2))] Q3 J1 rfl ?_
  refine cn 9 (decide (s1.1 ≥ 128)) rfl hB1 (fun hb hB1 => ?_) fun hb hB1 => ?_
  ·refine sk ?_
   refine bl ?_
   refine sg ?_
   obtain ⟨hc1, hB1⟩ := chk_some hB1
   refine ⟨(by decide), _, rfl, _, rfl, _, toU8_wrap _, Or.inl ⟨rowsLen_map (f := cU8) (n := 1) (fun _ => rfl) ([toU8 (IntKind.u64.wrap (128 + (Int.tmod s1.1 (128))))]), app_b2 (f := cU8) (l := s1.2) (l' := [toU8 (IntKind.u64.wrap (128 + (Int.tmod s1.1 (128))))]) hc1, _, (List.map_append (f := cU8) (l₁ := s1.2) (l₂ := [toU8 (IntKind.u64.wrap (128 + (Int.tmod s1.1 (128))))])).symm, ?_⟩⟩
   refine wT [(3, .o 5), (4, .v (.int .u64 s1.1))] [(5, .own 5 1 (mU (s1.2 ++ [toU8 (IntKind.u64.wrap (128 + (Int.tmod s1.1 (128))))])))] Q2 J1 rfl ?_
   refine rg ?_
   refine ⟨(by decide), _, rfl, ?_⟩
   exact ⟨_, sj hB1, wt Q2 J1 rfl⟩
  refine xt ?_
  have hB1 := out_ret hB1 hy1
  cases hB1
  exact wt Q2 J1 rfl
 refine sg ?_
 obtain ⟨hc2, h⟩ := chk_some h
 refine ⟨_, toU8_wrap _, Or.inl ⟨rowsLen_map (f := cU8) (n := 1) (fun _ => rfl) ([toU8 v1.1]), app_b2 (f := cU8) (l := v1.2) (l' := [toU8 v1.1]) hc2, _, (List.map_append (f := cU8) (l₁ := v1.2) (l₂ := [toU8 v1.1])).symm, ?_⟩⟩
 refine wT [(3, .o 5)] [(5, .own 5 1 (mU (v1.2 ++ [toU8 v1.1])))] Q1 J1 rfl ?_
 refine sg ?_
 refine wT [(2, .o 5)] [(5, .own 5 1 (mU (v1.2 ++ [toU8 v1.1])))] Q1 J1 rfl ?_
 refine rt ?_
 cases h
 exact (.inr ⟨_, rfl, rfl⟩)
theorem w_ref01_Int {p_n} {r} (h : ref01_Int p_n = some r) : Pure Tryz.prog 109 [(vi p_n)] (.s (mU r)) := (wo_ref01_Int h).pure
theorem wo_ref01_Str {p_s} {r} (h : ref01_Str p_s = some r) : POwn Tryz.prog 110 [(vs p_s)] 5 1 (mU r) := by
 refine pw Tryz.tok 21 Tryz.func110 (by kernel_rfl) rfl rfl rfl ?_
 unfold ref01_Str at h
 refine wE [(0, vs p_s)] Q1 ?_
 refine sg ?_
 refine wE [(0, vs p_s)] Q1 ?_
 refine sg ?_
 obtain ⟨x1, hx1, h⟩ := bindS h
 refine ⟨_, str_size _, ?_⟩
 refine CallOk.own (D := 7) (wo_ref01_Int hx1) (LeL.refl _) rfl ?_
 refine wT [(0, vs p_s), (3, .o 7)] [(7, .own 5 1 (mU x1))] Q2 J1 rfl ?_
 obtain ⟨v1, hv1, h⟩ := bindS h
 refine Ok.seqw ⟨Cat.tab [(3, .o 7)], [(7, .own 5 1 (mU v1))]⟩ ?_ ?_
 ·refine sg ?_
  refine wT [(0, vs p_s), (3, .o 7), (4, vi (0))] [(7, .own 5 1 (mU x1))] Q3 J1 rfl ?_
  refine bl ?_
  refine Ok.loop (fun (s1 : Int × (List UInt8)) => ⟨Cat.tab [(0, vs p_s), (3, .o 7), (4, vi s1.1)], [(7, .own 5 1 (mU s1.2))]⟩) (ref01_Str_B1 p_s) (s0 := (0, x1)) hv1 (wt Q3 ⟨⟨_, rfl, .refl _⟩, Q0⟩ rfl) ?_
  intro s1 y1 hB1 hy1
  unfold ref01_Str_B1 at hB1
  refine sq ?_
  refine sg ?_
  refine ⟨_, str_size _, ?_⟩
  refine wT [(0, vs p_s), (3, .o 7), (4, vi s1.1), (11, vb (decide (s1.1 < (p_s.length : Int))))] [(7, .own 5 1 (mU s1.2))] Q4 J1 rfl ?_
  refine cn 11 (decide (s1.1 < (p_s.length : Int))) rfl hB1 (fun hb hB1 => ?_) fun hb hB1 => ?_
  ·refine sk ?_
   refine sq ?_
   refine bl ?_
   refine rg ?_
   obtain ⟨x2, hx2, hB1⟩ := bindS hB1
   obtain ⟨hc1, hB1⟩ := chk_some hB1
   refine ⟨_, idx_nat hx2, _, idx_get hx2, Or.inl ⟨rowsLen_map (f := cU8) (n := 1) (fun _ => rfl) ([x2]), app_b2 (f := cU8) (l := s1.2) (l' := [x2]) hc1, _, (List.map_append (f := cU8) (l₁ := s1.2) (l₂ := [x2])).symm, ?_⟩⟩
   refine wT [(0, vs p_s), (3, .o 7), (4, vi s1.1)] [(7, .own 5 1 (mU (s1.2 ++ [x2])))] Q3 J1 rfl ?_
   refine rg ?_
   obtain ⟨hc2, hB1⟩ := chk_some hB1
   refine (Or.inl ⟨hc2, ?_⟩)
   exact ⟨_, sj hB1, wt Q3 J1 rfl⟩
  refine xt ?_
  have hB1 := out_ret hB1 hy1
  cases hB1
  exact wt Q1 J1 rfl
 refine sg ?_
 refine wT [(2, .o 7)] [(7, .own 5 1 (mU v1))] Q1 J1 rfl ?_
 refine rt ?_
 cases h
 exact (.inr ⟨_, rfl, rfl⟩)
theorem w_ref01_Str {p_s} {r} (h : ref01_Str p_s = some r) : Pure Tryz.prog 110 [(vs p_s)] (.s (mU r)) := (wo_ref01_Str h).pure
theorem wo_ref01_Ints {p_l} {r} (h : ref01_Ints p_l = some r) : POwn Tryz.prog 111 [(.s (mI p_l))] 5 1 (mU r) := by
 refine pw Tryz.tok 22 Tryz.func111 (by kernel_rfl) rfl rfl rfl ?_
 unfold ref01_Ints at h
 refine wE [(0, .s (mI p_l))] Q1 ?_
 refine sg ?_
 refine wE [(0, .s (mI p_l))] Q1 ?_
 refine sg ?_
 obtain ⟨x1, hx1, h⟩ := bindS h
 refine ⟨_, List.length_map _, fun _ => ?_⟩
 refine CallOk.own (D := 7) (wo_ref01_Int hx1) (LeL.refl _) rfl ?_
 refine wT [(0, .s (mI p_l)), (3, .o 7)] [(7, .own 5 1 (mU x1))] Q2 J1 rfl ?_
 obtain ⟨v1, hv1, h⟩ := bindS h
 refine Ok.seqw ⟨Cat.tab [(3, .o 7)], [(7, .own 5 1 (mU v1))]⟩ ?_ ?_
 ·refine sg ?_
  refine wT [(0, .s (mI p_l)), (3, .o 7), (4, vi (0))] [(7, .own 5 1 (mU x1))] Q3 J1 rfl ?_
  refine bl ?_
  refine Ok.loop (fun (s1 : Int × (List UInt8)) => ⟨Cat.tab [(0, .s (mI p_l)), (3, .o 7), (4, vi s1.1)], [(7, .own 5 1 (mU s1.2))]⟩) (ref01_Ints_B1 p_l) (s0 := (0, x1)) hv1 (wt Q3 ⟨⟨_, rfl, .refl _⟩, Q0⟩ rfl) ?_
  intro s1 y1 hB1 hy1
  unfold ref01_Ints_B1 at hB1
  refine sq ?_
  refine sg ?_
  refine ⟨_, List.length_map _, fun _ => ?_⟩
  refine wT [(0, .s (mI p_l)), (3, .o 7), (4, vi s1.1), (11, vb (decide (s1.1 < (p_l.length : Int))))] [(7, .own 5 1 (mU s1.2))] Q4 J1 rfl ?_
  refine cn 11 (decide (s1.1 < (p_l.length : Int))) rfl hB1 (fun hb hB1 => ?_) fun hb hB1 => ?_
  ·refine sk ?_
   refine sq ?_
   refine bl ?_
   refine rg ?_
   obtain ⟨x2, hx2, hB1⟩ := bindS hB1
   obtain ⟨x3, hx3, hB1⟩ := bindS hB1
   refine ⟨_, idx_nat hx2, _, idx_row hx2, _, rfl, ?_⟩
   refine CallOk.call (w_ref01_Int hx3) (LeL.refl _) ?_
   obtain ⟨hc1, hB1⟩ := chk_some hB1
   refine ⟨rowsLen_map (f := cU8) (n := 1) (fun _ => rfl) x3, app_b2 (f := cU8) (l := s1.2) (l' := x3) hc1, _, (List.map_append (f := cU8) (l₁ := s1.2) (l₂ := x3)).symm, ?_⟩
   refine wT [(0, .s (mI p_l)), (3, .o 7), (4, vi s1.1)] [(7, .own 5 1 (mU (s1.2 ++ x3)))] Q3 J1 rfl ?_
   refine rg ?_
   obtain ⟨hc2, hB1⟩ := chk_some hB1
   refine (Or.inl ⟨hc2, ?_⟩)
   exact ⟨_, sj hB1, wt Q3 J1 rfl⟩
  refine xt ?_
  have hB1 := out_ret hB1 hy1
  cases hB1
  exact wt Q1 J1 rfl
 refine sg ?_
 refine wT [(2, .o 7)] [(7, .own 5 1 (mU v1))] Q1 J1 rfl ?_
 refine rt ?_
 cases h
 exact (.inr ⟨_, rfl, rfl⟩)
theorem w_ref01_Ints {p_l} {r} (h : ref01_Ints p_l = some r) : Pure Tryz.prog 111 [(.s (mI p_l))] (.s (mU r)) := (wo_ref01_Ints h).pure
theorem wo_ref25_Page {p_c} {r} (h : ref25_Page p_c = some r) : POwn Tryz.prog 78 [(.a [(vi p_c.Id), (vi p_c.Ver), (.s (mU p_c.Data)), (.s (mI p_c.Sums))])] 5 1 (mU r) := by
 refine pw Tryz.tok 45 Tryz.func78 (by kernel_rfl) rfl rfl rfl ?_
 unfold ref25_Page at h
 refine wE [(0, .a [vi p_c.Id, vi p_c.Ver, .s (mU p_c.Data), .s (mI p_c.Sums)])] Q1 ?_
 refine sg ?_
 refine wT [(1, .b 1 0)] [(1, .box [vi p_c.Id, vi p_c.Ver, .s (mU p_c.Data), .s (mI p_c.Sums)])] Q1 J1 rfl ?_
 refine sg ?_
 obtain ⟨x1, hx1, h⟩ := bindS h
 refine Or.inr ⟨_, rfl, ?_⟩
 refine CallOk.call (w_ref01_Int hx1) (LeL.refl _) ?_
 obtain ⟨hc1, h⟩ := chk_some h
 refine ⟨rowsLen_map (f := cU8) (n := 1) (fun _ => rfl) x1, app_b2 (f := cU8) (l := ([] : List UInt8)) (l' := x1) hc1, _, (List.map_append (f := cU8) (l₁ := ([] : List UInt8)) (l₂ := x1)).symm, ?_⟩
 refine wT [(1, .b 1 0), (3, .o 5)] [(1, .box [vi p_c.Id, vi p_c.Ver, .s (mU p_c.Data), .s (mI p_c.Sums)]), (5, .own 5 1 (mU (([] : List UInt8) ++ x1)))] Q2 J2 rfl ?_
 refine sg ?_
 obtain ⟨x2, hx2, h⟩ := bindS h
 refine ⟨_, rfl, ?_⟩
 refine CallOk.call (w_ref01_Int hx2) (LeL.refl _) ?_
 obtain ⟨hc2, h⟩ := chk_some h
 refine ⟨rowsLen_map (f := cU8) (n := 1) (fun _ => rfl) x2, app_b2 (f := cU8) (l := ([] : List UInt8) ++ x1) (l' := x2) hc2, _, (List.map_append (f := cU8) (l₁ := ([] : List UInt8) ++ x1) (l₂ := x2)).symm, ?_⟩
 refine wT [(1, .b 1 0), (3, .o 5)] [(1, .box [vi p_c.Id, vi p_c.Ver, .s (mU p_c.Data), .s (mI p_c.Sums)]), (5, .own 5 1 (mU ((([] : List UInt8) ++ x1) ++ x2)))] Q2 J2 rfl ?_
 refine sg ?_
 obtain ⟨x3, hx3, h⟩ := bindS h
 refine ⟨_, rfl, _, rfl, ?_⟩
 refine CallOk.call (w_ref01_Str hx3) (LeL.refl _) ?_
 obtain ⟨hc3, h⟩ := chk_some h
 refine ⟨rowsLen_map (f := cU8) (n := 1) (fun _ => rfl) x3, app_b2 (f := cU8) (l := (([] : List UInt8) ++ x1) ++ x2) (l' := x3) hc3, _, (List.map_append (f := cU8) (l₁ := (([] : List UInt8) ++ x1) ++ x2) (l₂ := x3)).symm, ?_⟩
 refine wT [(1, .b 1 0), (3, .o 5)] [(1, .box [vi p_c.Id, vi p_c.Ver, .s (mU p_c.Data), .s (mI p_c.Sums)]), (5, .own 5 1 (mU (((([] : List UInt8) ++ x1) ++ x2) ++ x3)))] Q2 J2 rfl ?_
 refine sg ?_
 obtain ⟨x4, hx4, h⟩ := bindS h
 refine ⟨_, rfl, ?_⟩
 refine CallOk.call (w_ref01_Ints hx4) (LeL.refl _) ?_
 obtain ⟨hc4, h⟩ := chk_some h
 refine ⟨rowsLen_map (f := cU8) (n := 1) (fun _ => rfl) x4, app_b2 (f := cU8) (l := ((([] : List UInt8) ++ x1) ++ x2) ++ x3) (l' := x4) hc4, _, (List.map_append (f := cU8) (l₁ := ((([] : List UInt8) ++ x1) ++ x2) ++ x3) (l₂ := x4)).symm, ?_⟩
 refine wT [(3, .o 5)] [(5, .own 5 1 (mU ((((([] : List UInt8) ++ x1) ++ x2) ++ x3) ++ x4)))] Q1 J1 rfl ?_
 refine sg ?_
 obtain ⟨x5, hx5, h⟩ := bindS h
 refine CallOk.borrow (w_ref02_Of hx5) (.cons (Fz.o rfl) (.nil)) rfl ?_
 refine wT [(3, .o 5), (4, vi x5)] [(5, .own 5 1 (mU ((((([] : List UInt8) ++ x1) ++ x2) ++ x3) ++ x4)))] Q2 J1 rfl ?_
 refine sg ?_
 obtain ⟨hc5, h⟩ := chk_some h
 refine ⟨(by decide), _, rfl, _, toU8_wrap _, (by decide), _, rfl, (by decide), _, rfl, _, toU8_wrap _, (by decide), _, rfl, (by decide), _, rfl, _, toU8_wrap _, (by decide), _, rfl, _, toU8_wrap _, Or.inl ⟨rowsLen_map (f := cU8) (n := 1) (fun _ => rfl) ([toU8 (Int.tmod x5 (256)), toU8 (Int.tmod (quoK .i64 x5 (256)) (256)), toU8 (Int.tmod (quoK .i64 x5 (65536)) (256)), toU8 (quoK .i64 x5 (16777216))]), app_b2 (f := cU8) (l := (((([] : List UInt8) ++ x1) ++ x2) ++ x3) ++ x4) (l' := [toU8 (Int.tmod x5 (256)), toU8 (Int.tmod (quoK .i64 x5 (256)) (256)), toU8 (Int.tmod (quoK .i64 x5 (65536)) (256)), toU8 (quoK .i64 x5 (16777216))]) hc5, _, (List.map_append (f := cU8) (l₁ := (((([] : List UInt8) ++ x1) ++ x2) ++ x3) ++ x4) (l₂ := [toU8 (Int.tmod x5 (256)), toU8 (Int.tmod (quoK .i64 x5 (256)) (256)), toU8 (Int.tmod (quoK .i64 x5 (65536)) (256)), toU8 (quoK .i64 x5 (16777216))])).symm, ?_⟩⟩
 refine wT [(2, .o 5)] [(5, .own 5 1 (mU (((((([] : List UInt8) ++ x1) ++ x2) ++ x3) ++ x4) ++ [toU8 (Int.tmod x5 (256)), toU8 (Int.tmod (quoK .i64 x5 (256)) (256)), toU8 (Int.tmod (quoK .i64 x5 (65536)) (256)), toU8 (quoK .i64 x5 (16777216))])))] Q1 J1 rfl ?_
 refine rt ?_
 cases h
 exact (.inr ⟨_, rfl, rfl⟩)
theorem w_ref25_Page {p_c} {r} (h : ref25_Page p_c = some r) : Pure Tryz.prog 78 [(.a [(vi p_c.Id), (vi p_c.Ver), (.s (mU p_c.Data)), (.s (mI p_c.Sums))])] (.s (mU r)) := (wo_ref25_Page h).pure
theorem w_ref04_Page {p_p} {r} (h : ref04_Page p_p = some r) : Pure Tryz.prog 117 [(.a [(vi p_p.At), (.s (mU p_p.Data))])] (vb r) := by
 refine po Tryz.tok 17 Tryz.func117 (by kernel_rfl) rfl rfl rfl ?_
 unfold ref04_Page at h
 refine wE [(0, .a [vi p_p.At, .s (mU p_p.Data)])] Q1 ?_
 refine sg ?_
 refine wT [(1, .b 1 0)] [(1, .box [vi p_p.At, .s (mU p_p.Data)])] Q1 J1 rfl ?_
 obtain ⟨v1, hv1, h⟩ := bindS h
 refine Ok.seqw ⟨Cat.tab [(2, vb v1)], []⟩ ?_ ?_
 ·refine rg ?_
  refine ⟨_, rfl, ?_⟩
  obtain ⟨c1, hg1, hv1⟩ := bindS hv1
  refine Br.ite hg1 (fun hb hg1 => ?_) fun hb hg1 => ?_
  ·refine ⟨_, rfl, ?_⟩
   cases hg1
   obtain ⟨c2, hg2, hv1⟩ := bindS hv1
   refine Br.ite hg2 (fun hb hg2 => ?_) fun hb hg2 => ?_
   ·refine ⟨_, rfl, _, List.length_map _, fun _ => ?_⟩
    cases hg2
    cases hv1
    exact wt Q1 Q0 rfl
   cases hg2
   cases hv1
   exact wt Q1 Q0 rfl
  cases hg1
  obtain ⟨c2, hg3, hv1⟩ := bindS hv1
  replace hg3 := iteF hg3
  cases hg3
  cases hv1
  exact wt Q1 Q0 rfl
 refine rt ?_
 cases h
 exact Fz.v
theorem w_ref04_Write {p_d} {p_at} {p_data} {r} (h : ref04_Write p_d p_at p_data = some r) : Pure Tryz.prog 86 [(.a [(.s (mB p_d.Synced)), (.s (mB p_d.Loose)), (vb p_d.Down)]), (vi p_at), (.s (mU p_data))] (.t [(.a [(.s (mB r.1.Synced)), (.s (mB r.1.Loose)), (vb r.1.Down)]), (vi r.2)]) := by
 refine po Tryz.tok 38 Tryz.func86 (by kernel_rfl) rfl rfl rfl ?_
 unfold ref04_Write at h
 refine wE [(0, .a [.s (mB p_d.Synced), .s (mB p_d.Loose), vb p_d.Down]), (1, vi p_at), (2, .s (mU p_data))] Q3 ?_
 refine sg ?_
 refine wT [(1, vi p_at), (2, .s (mU p_data)), (3, .b 3 0), (6, .b 6 0)] [(3, .box [.s (mB p_d.Synced), .s (mB p_d.Loose), vb p_d.Down]), (6, .box [.v (.slice none 0 0), .v (.slice none 0 0), vb false])] Q4 J2 rfl ?_
 refine sq ?_
 refine sg ?_
 refine ⟨_, rfl, ?_⟩
 refine wT [(1, vi p_at), (2, .s (mU p_data)), (3, .b 3 0), (6, .b 6 0), (12, vb p_d.Down)] [(3, .box [.s (mB p_d.Synced), .s (mB p_d.Loose), vb p_d.Down]), (6, .box [.v (.slice none 0 0), .v (.slice none 0 0), vb false])] Q5 J2 rfl ?_
 refine cn 12 (p_d.Down) rfl h (fun hb h => ?_) fun hb h => ?_
 ·refine sg ?_
  refine ⟨_, rfl, _, rfl, ?_⟩
  refine wT [(6, .b 6 0), (7, vi (40))] [(6, .box [.s (mB p_d.Synced), .s (mB p_d.Loose), vb p_d.Down])] Q2 J1 rfl ?_
  refine rt ?_
  cases h
  exact ⟨_, rfl, (Fz.t (.cons (Fz.imm rfl) (.cons Fz.v .nil)))⟩
 refine sk ?_
 refine sg ?_
 refine ⟨_, rfl, ?_⟩
 refine wT [(3, .b 3 0), (6, .b 6 0), (8, .b 8 0)] [(3, .box [.s (mB p_d.Synced), .s (mB p_d.Loose), vb p_d.Down]), (6, .box [.v (.slice none 0 0), .v (.slice none 0 0), vb false]), (8, .box [vi p_at, .s (mU p_data)])] Q3 J3 rfl ?_
 refine sg ?_
 obtain ⟨x1, hx1, h⟩ := bindS h
 refine ⟨_, rfl, ?_⟩
 refine CallOk.call (w_ref04_Page hx1) (LeL.refl _) ?_
 refine wT [(3, .b 3 0), (6, .b 6 0), (8, .b 8 0), (9, vb x1)] [(3, .box [.s (mB p_d.Synced), .s (mB p_d.Loose), vb p_d.Down]), (6, .box [.v (.slice none 0 0), .v (.slice none 0 0), vb false]), (8, .box [vi p_at, .s (mU p_data)])] Q4 J3 rfl ?_
 refine sq ?_
 refine sg ?_
 refine wT [(3, .b 3 0), (6, .b 6 0), (8, .b 8 0), (20, vb (!x1))] [(3, .box [.s (mB p_d.Synced), .s (mB p_d.Loose), vb p_d.Down]), (6, .box [.v (.slice none 0 0), .v (.slice none 0 0), vb false]), (8, .box [vi p_at, .s (mU p_data)])] Q4 J3 rfl ?_
 refine cn 20 (!x1) rfl h (fun hb h => ?_) fun hb h => ?_
 ·refine sg ?_
  refine ⟨_, rfl, _, rfl, ?_⟩
  refine wT [(6, .b 6 0), (7, vi (1))] [(6, .box [.s (mB p_d.Synced), .s (mB p_d.Loose), vb p_d.Down])] Q2 J1 rfl ?_
  refine rt ?_
  cases h
  exact ⟨_, rfl, (Fz.t (.cons (Fz.imm rfl) (.cons Fz.v .nil)))⟩
 refine sk ?_
 refine sg ?_
 refine ⟨_, rfl, _, rfl, ?_⟩
 refine wT [(3, .b 3 0), (6, .b 6 0), (8, .b 8 0), (10, .b 10 0)] [(3, .box [.s (mB p_d.Synced), .s (mB p_d.Loose), vb p_d.Down]), (6, .box [.v (.slice none 0 0), .v (.slice none 0 0), vb false]), (8, .box [vi p_at, .s (mU p_data)]), (10, .box [.s (mB p_d.Synced), .v (.slice none 0 0), vb false])] Q4 J4 rfl ?_
 refine sg ?_
 obtain ⟨hc1, h⟩ := chk_some h
 refine ⟨_, rfl, _, rfl, rowsLen_map (f := c_api_Page) (n := 2) (fun _ => rfl) p_d.Loose, app_b1 (f := c_api_Page) (l' := p_d.Loose) hc1, _, rfl, _, rfl, ?_⟩
 refine wT [(6, .b 6 0), (8, .b 8 0), (10, .b 10 0)] [(6, .box [.v (.slice none 0 0), .v (.slice none 0 0), vb false]), (8, .box [vi p_at, .s (mU p_data)]), (10, .box [.s (mB p_d.Synced), .o 29, vb false]), (29, .own 110 2 (mB p_d.Loose))] Q3 J4 rfl ?_
 refine sg ?_
 obtain ⟨hc2, h⟩ := chk_some h
 refine ⟨_, rfl, _, rfl, Or.inl ⟨rowsLen_map (f := c_api_Page) (n := 2) (fun _ => rfl) ([(⟨p_at, p_data⟩ : api_Page)]), app_b2 (f := c_api_Page) (l := p_d.Loose) (l' := [(⟨p_at, p_data⟩ : api_Page)]) hc2, _, (List.map_append (f := c_api_Page) (l₁ := p_d.Loose) (l₂ := [(⟨p_at, p_data⟩ : api_Page)])).symm, _, rfl, ?_⟩⟩
 refine wT [(6, .b 6 0), (10, .b 10 0)] [(6, .box [.v (.slice none 0 0), .v (.slice none 0 0), vb false]), (10, .box [.s (mB p_d.Synced), .o 29, vb false]), (29, .own 110 2 (mB (p_d.Loose ++ [(⟨p_at, p_data⟩ : api_Page)])))] Q2 J3 rfl ?_
 refine sg ?_
 refine ⟨_, rfl, _, rfl, ?_⟩
 refine wT [(6, .b 6 0), (7, vi (0))] [(6, .box [.s (mB p_d.Synced), .o 29, vb false]), (29, .own 110 2 (mB (p_d.Loose ++ [(⟨p_at, p_data⟩ : api_Page)])))] Q2 J2 rfl ?_
 refine rt ?_
 cases h
 exact ⟨_, rfl, (Fz.t (.cons (Fz.a (.cons Fz.s (.cons (Fz.o rfl) (.cons Fz.v .nil)))) (.cons Fz.v .nil)))⟩
theorem w_ref25_Put {p_d} {p_c} {r} (h : ref25_Put p_d p_c = some r) : Pure Tryz.prog 63 [(.a [(.s (mB p_d.Synced)), (.s (mB p_d.Loose)), (vb p_d.Down)]), (.a [(vi p_c.Id), (vi p_c.Ver), (.s (mU p_c.Data)), (.s (mI p_c.Sums))])] (.t [(.a [(.s (mB r.1.Synced)), (.s (mB r.1.Loose)), (vb r.1.Down)]), (vi r.2)]) := by
 refine po Tryz.tok 18 Tryz.func63 (by kernel_rfl) rfl rfl rfl ?_
 unfold ref25_Put at h
 refine wE [(0, .a [.s (mB p_d.Synced), .s (mB p_d.Loose), vb p_d.Down]), (1, .a [vi p_c.Id, vi p_c.Ver, .s (mU p_c.Data), .s (mI p_c.Sums)])] Q2 ?_
 refine sg ?_
 refine wT [(2, .b 2 0), (3, .b 3 0), (4, .b 4 0)] [(2, .box [.s (mB p_d.Synced), .s (mB p_d.Loose), vb p_d.Down]), (3, .box [vi p_c.Id, vi p_c.Ver, .s (mU p_c.Data), .s (mI p_c.Sums)]), (4, .box [.v (.slice none 0 0), .v (.slice none 0 0), vb false])] Q3 J3 rfl ?_
 refine sq ?_
 refine sg ?_
 obtain ⟨x1, hx1, h⟩ := bindS h
 refine ⟨_, rfl, ?_⟩
 refine CallOk.call (w_ref25_May hx1) (LeL.refl _) ?_
 refine wT [(2, .b 2 0), (3, .b 3 0), (4, .b 4 0), (8, vb (!x1))] [(2, .box [.s (mB p_d.Synced), .s (mB p_d.Loose), vb p_d.Down]), (3, .box [vi p_c.Id, vi p_c.Ver, .s (mU p_c.Data), .s (mI p_c.Sums)]), (4, .box [.v (.slice none 0 0), .v (.slice none 0 0), vb false])] Q4 J3 rfl ?_
 refine cn 8 (!x1) rfl h (fun hb h => ?_) fun hb h => ?_
 ·refine sg ?_
  refine ⟨_, rfl, _, rfl, ?_⟩
  refine wT [(4, .b 4 0), (5, vi (1))] [(4, .box [.s (mB p_d.Synced), .s (mB p_d.Loose), vb p_d.Down])] Q2 J1 rfl ?_
  refine rt ?_
  cases h
  exact ⟨_, rfl, (Fz.t (.cons (Fz.imm rfl) (.cons Fz.v .nil)))⟩
 refine sk ?_
 refine sq ?_
 refine Ok.draw (m := 8) (MD := ⟨[]⟩) (CH := ⟨[]⟩) Tryz.tok Tryz.mixed (by kernel_rfl) ?_
 obtain ⟨x2, hx2, h⟩ := bindS h
 obtain ⟨x3, hx3, h⟩ := bindS h
 refine ⟨_, ⟨_, rfl, rfl⟩, _, rfl, _, ⟨_, rfl, rfl⟩, _, ⟨_, rfl, rfl⟩, _, ⟨_, .of_pure (w_ref25_Page hx2) (LeL.refl _), rfl⟩, _, ⟨_, .of_pure (w_ref04_Write hx3) (LeL.refl _), rfl⟩, _, rfl, _, rfl, Q0, _, rfl, ?_⟩
 refine wT [(4, .b 4 0), (5, vi x3.2)] [(4, .box [.s (mB x3.1.Synced), .s (mB x3.1.Loose), vb x3.1.Down])] Q2 J1 rfl ?_
 refine rt ?_
 cases h
 exact ⟨_, rfl, (Fz.t (.cons (Fz.imm rfl) (.cons Fz.v .nil)))⟩
theorem wo_ref04_lay {p_l} {p_p} {r} (h : ref04_lay p_l p_p = some r) : POwn Tryz.prog 88 [(.s (mB p_l)), (.a [(vi p_p.At), (.s (mU p_p.Data))])] 110 2 (mB r) := by
 refine pw Tryz.tok 52 Tryz.func88 (by kernel_rfl) rfl rfl rfl ?_
 unfold ref04_lay at h
 refine wE [(0, .s (mB p_l)), (1, .a [vi p_p.At, .s (mU p_p.Data)])] Q2 ?_
 refine sg ?_
 refine wT [(0, .s (mB p_l)), (3, .b 3 0)] [(3, .box [vi p_p.At, .s (mU p_p.Data)])] Q2 J1 rfl ?_
 refine sg ?_
 refine wT [(0, .s (mB p_l)), (3, .b 3 0), (5, .v (.slice none 0 0))] [(3, .box [vi p_p.At, .s (mU p_p.Data)])] Q3 J1 rfl ?_
 refine sg ?_
 refine wT [(0, .s (mB p_l)), (3, .b 3 0), (5, .v (.slice none 0 0)), (6, vb false)] [(3, .box [vi p_p.At, .s (mU p_p.Data)])] Q4 J1 rfl ?_
 obtain ⟨v1, hv1, h⟩ := bindS h
 refine Ok.seqw ⟨Cat.tab [(3, .b 3 0), (5, .o 29), (6, vb v1.1)], [(3, .box [vi p_p.At, .s (mU p_p.Data)]), (29, .own 110 2 (mB v1.2))]⟩ ?_ ?_
 ·refine sg ?_
  refine wT [(0, .s (mB p_l)), (3, .b 3 0), (5, .v (.slice none 0 0)), (6, vb false), (7, vi (0))] [(3, .box [vi p_p.At, .s (mU p_p.Data)])] Q5 J1 rfl ?_
  refine bl ?_
  refine Ok.loop (fun (s1 : Bool × Int × (List api_Page)) => ⟨Cat.tab [(0, .s (mB p_l)), (3, .b 3 0), (5, .o 29), (6, vb s1.1), (7, vi s1.2.1)], [(3, .box [vi p_p.At, .s (mU p_p.Data)]), (29, .own 110 2 (mB s1.2.2))]⟩) (ref04_lay_B1 p_l p_p) (s0 := (false, 0, [])) hv1 ((Wk.own0 (t := 5) (id := 29) (E := 110) (K := 2) rfl rfl).trans (wt Q5 ⟨⟨_, rfl, .refl _⟩, ⟨_, rfl, .refl _⟩, Q0⟩ rfl)) ?_
  intro s1 y1 hB1 hy1
  unfold ref04_lay_B1 at hB1
  refine sq ?_
  refine sg ?_
  refine ⟨_, List.length_map _, fun _ => ?_⟩
  refine wT [(0, .s (mB p_l)), (3, .b 3 0), (5, .o 29), (6, vb s1.1), (7, vi s1.2.1), (11, vb (decide (s1.2.1 < (p_l.length : Int))))] [(3, .box [vi p_p.At, .s (mU p_p.Data)]), (29, .own 110 2 (mB s1.2.2))] Q6 J2 rfl ?_
  refine cn 11 (decide (s1.2.1 < (p_l.length : Int))) rfl hB1 (fun hb hB1 => ?_) fun hb hB1 => ?_
  ·refine sk ?_
   obtain ⟨v2, hv2, hB1⟩ := bindS hB1
   refine Ok.seqw ⟨Cat.tab [(0, .s (mB p_l)), (3, .b 3 0), (5, .o 29), (6, vb v2.1), (7, vi s1.2.1)], [(3, .box [vi p_p.At, .s (mU p_p.Data)]), (29, .own 110 2 (mB v2.2))]⟩ ?_ ?_
   ·refine bl ?_
    obtain ⟨v3, hv3, hv2⟩ := bindS hv2
    refine Ok.seqw ⟨Cat.tab [(0, .s (mB p_l)), (3, .b 3 0), (5, .o 29), (6, vb v3.1), (7, vi s1.2.1)], [(3, .box [vi p_p.At, .s (mU p_p.Data)]), (29, .own 110 2 (mB v3.2))]⟩ ?_ ?_
    ·obtain ⟨v4, hv4, hv3⟩ := bindS hv3
     refine Ok.seqw ⟨Cat.tab [(0, .s (mB p_l)), (3, .b 3 0), (5, .o 29), (6, vb s1.1), (7, vi s1.2.1), (25, vb v4)], [(3, .box [vi p_p.At, .s (mU p_p.Data)]), (29, .own 110 2 (mB s1.2.2))]⟩ ?_ ?_
     ·refine Ok.draw (m := 12) (MD := ⟨[]⟩) (CH := ⟨[]⟩) Tryz.tok Tryz.mixed (by kernel_rfl) ?_
      refine ⟨_, rfl, _, rfl, _, rfl, ?_⟩
      obtain ⟨c1, hg1, hv4⟩ := bindS hv4
      refine Br.ite hg1 (fun hb hg1 => ?_) fun hb hg1 => ?_
      ·obtain ⟨x1, hx1, hg1⟩ := bindS hg1
       refine ⟨_, rfl, _, rfl, _, ⟨_, idx_nat hx1, _, idx_row hx1, rfl⟩, _, rfl, _, ⟨_, rfl, rfl⟩, _, rfl, _, ⟨_, rfl, rfl⟩, _, rfl, ?_⟩
       cases hg1
       refine ⟨_, rfl, ?_⟩
       refine ⟨Q0, ?_⟩
       cases hv4
       exact wt Q6 J2 rfl
      cases hg1
      refine ⟨_, rfl, ?_⟩
      refine ⟨Q0, ?_⟩
      cases hv4
      exact wt Q6 J2 rfl
     refine cn 25 (v4) rfl hv3 (fun hb hv3 => ?_) fun hb hv3 => ?_
     ·refine sg ?_
      obtain ⟨hc1, hv3⟩ := chk_some hv3
      refine ⟨_, rfl, Or.inl ⟨rowsLen_map (f := c_api_Page) (n := 2) (fun _ => rfl) ([p_p]), app_b2 (f := c_api_Page) (l := s1.2.2) (l' := [p_p]) hc1, _, (List.map_append (f := c_api_Page) (l₁ := s1.2.2) (l₂ := [p_p])).symm, ?_⟩⟩
      refine wT [(0, .s (mB p_l)), (3, .b 3 0), (5, .o 29), (7, vi s1.2.1)] [(3, .box [vi p_p.At, .s (mU p_p.Data)]), (29, .own 110 2 (mB (s1.2.2 ++ [p_p])))] Q4 J2 rfl ?_
      refine rg ?_
      cases hv3
      exact wt Q5 J2 rfl
     refine sk ?_
     cases hv3
     exact wt Q5 J2 rfl
    refine sq ?_
    refine Ok.draw (m := 8) (MD := ⟨[]⟩) (CH := ⟨[]⟩) Tryz.tok Tryz.mixed (by kernel_rfl) ?_
    obtain ⟨x2, hx2, hv2⟩ := bindS hv2
    refine ⟨_, rfl, _, rfl, _, ⟨_, idx_nat hx2, _, idx_row hx2, rfl⟩, _, rfl, _, ⟨_, rfl, rfl⟩, _, rfl, _, ⟨_, rfl, rfl⟩, _, rfl, Q0, ?_⟩
    refine wT [(0, .s (mB p_l)), (3, .b 3 0), (5, .o 29), (6, vb v3.1), (7, vi s1.2.1), (37, vb (x2.At != p_p.At))] [(3, .box [vi p_p.At, .s (mU p_p.Data)]), (29, .own 110 2 (mB v3.2))] Q6 J2 rfl ?_
    refine cn 37 (x2.At != p_p.At) rfl hv2 (fun hb hv2 => ?_) fun hb hv2 => ?_
    ·refine rg ?_
     obtain ⟨x3, hx3, hv2⟩ := bindS hv2
     obtain ⟨hc2, hv2⟩ := chk_some hv2
     refine ⟨_, idx_nat hx3, _, idx_row hx3, _, rfl, Or.inl ⟨rowsLen_map (f := c_api_Page) (n := 2) (fun _ => rfl) ([x3]), app_b2 (f := c_api_Page) (l := v3.2) (l' := [x3]) hc2, _, (List.map_append (f := c_api_Page) (l₁ := v3.2) (l₂ := [x3])).symm, ?_⟩⟩
     cases hv2
     exact wt Q5 J2 rfl
    refine sk ?_
    cases hv2
    exact wt Q5 J2 rfl
   refine rg ?_
   obtain ⟨hc3, hB1⟩ := chk_some hB1
   refine (Or.inl ⟨hc3, ?_⟩)
   exact ⟨_, sj hB1, wt Q5 J2 rfl⟩
  refine xt ?_
  have hB1 := out_ret hB1 hy1
  cases hB1
  exact wt Q3 J2 rfl
 obtain ⟨v5, hv5, h⟩ := bindS h
 refine Ok.seqw ⟨Cat.tab [(5, .o 29)], [(29, .own 110 2 (mB v5))]⟩ ?_ ?_
 ·refine sg ?_
  refine wT [(3, .b 3 0), (5, .o 29), (46, vb (!v1.1))] [(3, .box [vi p_p.At, .s (mU p_p.Data)]), (29, .own 110 2 (mB v1.2))] Q3 J2 rfl ?_
  refine cn 46 (!v1.1) rfl hv5 (fun hb hv5 => ?_) fun hb hv5 => ?_
  ·refine rg ?_
   obtain ⟨hc4, hv5⟩ := chk_some hv5
   refine ⟨_, rfl, Or.inl ⟨rowsLen_map (f := c_api_Page) (n := 2) (fun _ => rfl) ([p_p]), app_b2 (f := c_api_Page) (l := v1.2) (l' := [p_p]) hc4, _, (List.map_append (f := c_api_Page) (l₁ := v1.2) (l₂ := [p_p])).symm, ?_⟩⟩
   cases hv5
   exact wt Q1 J1 rfl
  refine sk ?_
  cases hv5
  exact wt Q1 J1 rfl
 refine sg ?_
 refine wT [(4, .o 29)] [(29, .own 110 2 (mB v5))] Q1 J1 rfl ?_
 refine rt ?_
 cases h
 exact (.inr ⟨_, rfl, rfl⟩)
theorem w_ref04_lay {p_l} {p_p} {r} (h : ref04_lay p_l p_p = some r) : Pure Tryz.prog 88 [(.s (mB p_l)), (.a [(vi p_p.At), (.s (mU p_p.Data))])] (.s (mB r)) := (wo_ref04_lay h).pure
theorem w_ref04_Sync {p_d} {r} (h : ref04_Sync p_d = some r) : Pure Tryz.prog 65 [(.a [(.s (mB p_d.Synced)), (.s (mB p_d.Loose)), (vb p_d.Down)])] (.t [(.a [(.s (mB r.1.Synced)), (.s (mB r.1.Loose)), (vb r.1.Down)]), (vi r.2)]) := by
 refine po Tryz.tok 29 Tryz.func65 (by kernel_rfl) rfl rfl rfl ?_
 unfold ref04_Sync at h
 refine wE [(0, .a [.s (mB p_d.Synced), .s (mB p_d.Loose), vb p_d.Down])] Q1 ?_
 refine sg ?_
 refine wT [(1, .b 1 0), (2, .b 2 0)] [(1, .box [.s (mB p_d.Synced), .s (mB p_d.Loose), vb p_d.Down]), (2, .box [.v (.slice none 0 0), .v (.slice none 0 0), vb false])] Q2 J2 rfl ?_
 refine sq ?_
 refine sg ?_
 refine ⟨_, rfl, ?_⟩
 refine wT [(1, .b 1 0), (2, .b 2 0), (7, vb p_d.Down)] [(1, .box [.s (mB p_d.Synced), .s (mB p_d.Loose), vb p_d.Down]), (2, .box [.v (.slice none 0 0), .v (.slice none 0 0), vb false])] Q3 J2 rfl ?_
 refine cn 7 (p_d.Down) rfl h (fun hb h => ?_) fun hb h => ?_
 ·refine sg ?_
  refine ⟨_, rfl, _, rfl, ?_⟩
  refine wT [(2, .b 2 0), (3, vi (40))] [(2, .box [.s (mB p_d.Synced), .s (mB p_d.Loose), vb p_d.Down])] Q2 J1 rfl ?_
  refine rt ?_
  cases h
  exact ⟨_, rfl, (Fz.t (.cons (Fz.imm rfl) (.cons Fz.v .nil)))⟩
 refine sk ?_
 refine sg ?_
 refine ⟨_, rfl, _, rfl, ?_⟩
 refine wT [(1, .b 1 0), (2, .b 2 0), (4, .b 4 0)] [(1, .box [.s (mB p_d.Synced), .s (mB p_d.Loose), vb p_d.Down]), (2, .box [.v (.slice none 0 0), .v (.slice none 0 0), vb false]), (4, .box [.s (mB p_d.Synced), .v (.slice none 0 0), vb false])] Q3 J3 rfl ?_
 obtain ⟨v1, hv1, h⟩ := bindS h
 refine Ok.seqw ⟨Cat.tab [(2, .b 2 0), (4, .b 4 0)], [(2, .box [.v (.slice none 0 0), .v (.slice none 0 0), vb false]), (4, .box [.s (mB v1), .v (.slice none 0 0), vb false])]⟩ ?_ ?_
 ·refine sg ?_
  refine wT [(1, .b 1 0), (2, .b 2 0), (4, .b 4 0), (5, vi (0))] [(1, .box [.s (mB p_d.Synced), .s (mB p_d.Loose), vb p_d.Down]), (2, .box [.v (.slice none 0 0), .v (.slice none 0 0), vb false]), (4, .box [.s (mB p_d.Synced), .v (.slice none 0 0), vb false])] Q4 J3 rfl ?_
  refine bl ?_
  refine Ok.loop (fun (s1 : Int × (List api_Page)) => ⟨Cat.tab [(1, .b 1 0), (2, .b 2 0), (4, .b 4 0), (5, vi s1.1)], [(1, .box [.s (mB p_d.Synced), .s (mB p_d.Loose), vb p_d.Down]), (2, .box [.v (.slice none 0 0), .v (.slice none 0 0), vb false]), (4, .box [.s (mB s1.2), .v (.slice none 0 0), vb false])]⟩) (ref04_Sync_B1 p_d) (s0 := (0, p_d.Synced)) hv1 (wt Q4 ⟨⟨_, rfl, .refl _⟩, ⟨_, rfl, .refl _⟩, ⟨_, rfl, .refl _⟩, Q0⟩ rfl) ?_
  intro s1 y1 hB1 hy1
  unfold ref04_Sync_B1 at hB1
  refine sq ?_
  refine sg ?_
  refine ⟨_, rfl, _, List.length_map _, fun _ => ?_⟩
  refine wT [(1, .b 1 0), (2, .b 2 0), (4, .b 4 0), (5, vi s1.1), (16, vb (decide (s1.1 < (p_d.Loose.length : Int))))] [(1, .box [.s (mB p_d.Synced), .s (mB p_d.Loose), vb p_d.Down]), (2, .box [.v (.slice none 0 0), .v (.slice none 0 0), vb false]), (4, .box [.s (mB s1.2), .v (.slice none 0 0), vb false])] Q5 J3 rfl ?_
  refine cn 16 (decide (s1.1 < (p_d.Loose.length : Int))) rfl hB1 (fun hb hB1 => ?_) fun hb hB1 => ?_
  ·refine sk ?_
   refine sq ?_
   refine bl ?_
   refine Ok.draw (m := 9) (MD := ⟨[]⟩) (CH := ⟨[]⟩) Tryz.tok Tryz.mixed (by kernel_rfl) ?_
   obtain ⟨x1, hx1, hB1⟩ := bindS hB1
   obtain ⟨x2, hx2, hB1⟩ := bindS hB1
   refine ⟨_, rfl, _, ⟨_, rfl, rfl⟩, _, rfl, _, ⟨_, rfl, rfl⟩, _, rfl, _, ⟨_, idx_nat hx1, _, idx_row hx1, rfl⟩, _, ⟨_, rfl, rfl⟩, _, ⟨_, .of_pure (w_ref04_lay hx2) (LeL.refl _), rfl⟩, _, rfl, Q0, _, rfl, ?_⟩
   refine wT [(1, .b 1 0), (2, .b 2 0), (4, .b 4 0), (5, vi s1.1)] [(1, .box [.s (mB p_d.Synced), .s (mB p_d.Loose), vb p_d.Down]), (2, .box [.v (.slice none 0 0), .v (.slice none 0 0), vb false]), (4, .box [.s (mB x2), .v (.slice none 0 0), vb false])] Q4 J3 rfl ?_
   refine rg ?_
   obtain ⟨hc1, hB1⟩ := chk_some hB1
   refine (Or.inl ⟨hc1, ?_⟩)
   exact ⟨_, sj hB1, wt Q4 J3 rfl⟩
  refine xt ?_
  have hB1 := out_ret hB1 hy1
  cases hB1
  exact wt Q2 J2 rfl
 refine sg ?_
 refine ⟨_, rfl, _, rfl, ?_⟩
 refine wT [(2, .b 2 0), (3, vi (0))] [(2, .box [.s (mB v1), .v (.slice none 0 0), vb false])] Q2 J1 rfl ?_
 refine rt ?_
 cases h
 exact ⟨_, rfl, (Fz.t (.cons (Fz.a (.cons Fz.s (.cons Fz.nil (.cons Fz.v .nil)))) (.cons Fz.v .nil)))⟩
theorem wo_ref26_Lay {p_c} {p_disks} {p_server} {p_ver} {p_data} {r} (h : ref26_Lay p_c p_disks p_server p_ver p_data = some r) : POwn Tryz.prog 41 [(.a [(vi p_c.Id), (vi p_c.Ver), (.s (mI p_c.Servers))]), (.s (mA p_disks)), (vi p_server), (vi p_ver), (.s (mU p_data))] 29 3 (mA r) := by
 refine pw Tryz.tok 56 Tryz.func41 (by kernel_rfl) rfl rfl rfl ?_
 unfold ref26_Lay at h
 refine wE [(0, .a [vi p_c.Id, vi p_c.Ver, .s (mI p_c.Servers)]), (1, .s (mA p_disks)), (2, vi p_server), (3, vi p_ver), (4, .s (mU p_data))] Q5 ?_
 refine sg ?_
 refine wT [(1, .s (mA p_disks)), (2, vi p_server), (3, vi p_ver), (4, .s (mU p_data)), (5, .b 5 0)] [(5, .box [vi p_c.Id, vi p_c.Ver, .s (mI p_c.Servers)])] Q5 J1 rfl ?_
 refine sg ?_
 refine wT [(1, .s (mA p_disks)), (2, vi p_server), (3, vi p_ver), (4, .s (mU p_data)), (5, .b 5 0), (11, .v (.slice none 0 0))] [(5, .box [vi p_c.Id, vi p_c.Ver, .s (mI p_c.Servers)])] Q6 J1 rfl ?_
 obtain ⟨v1, hv1, h⟩ := bindS h
 refine Ok.seqw ⟨Cat.tab [(11, .o 32)], [(32, .own 29 3 (mA v1))]⟩ ?_ ?_
 ·refine sg ?_
  refine wT [(1, .s (mA p_disks)), (2, vi p_server), (3, vi p_ver), (4, .s (mU p_data)), (5, .b 5 0), (11, .v (.slice none 0 0)), (12, vi (0))] [(5, .box [vi p_c.Id, vi p_c.Ver, .s (mI p_c.Servers)])] Q7 J1 rfl ?_
  refine bl ?_
  refine Ok.loop (fun (s1 : Int × (List api_Disk)) => ⟨Cat.tab [(1, .s (mA p_disks)), (2, vi p_server), (3, vi p_ver), (4, .s (mU p_data)), (5, .b 5 0), (11, .o 32), (12, vi s1.1)], [(5, .box [vi p_c.Id, vi p_c.Ver, .s (mI p_c.Servers)]), (32, .own 29 3 (mA s1.2))]⟩) (ref26_Lay_B1 p_disks p_server p_c p_ver p_data) (s0 := (0, [])) hv1 ((Wk.own0 (t := 11) (id := 32) (E := 29) (K := 3) rfl rfl).trans (wt Q7 ⟨⟨_, rfl, .refl _⟩, ⟨_, rfl, .refl _⟩, Q0⟩ rfl)) ?_
  intro s1 y1 hB1 hy1
  unfold ref26_Lay_B1 at hB1
  refine sq ?_
  refine sg ?_
  refine ⟨_, List.length_map _, fun _ => ?_⟩
  refine wT [(1, .s (mA p_disks)), (2, vi p_server), (3, vi p_ver), (4, .s (mU p_data)), (5, .b 5 0), (11, .o 32), (12, vi s1.1), (20, vb (decide (s1.1 < (p_disks.length : Int))))] [(5, .box [vi p_c.Id, vi p_c.Ver, .s (mI p_c.Servers)]), (32, .own 29 3 (mA s1.2))] Q8 J2 rfl ?_
  refine cn 20 (decide (s1.1 < (p_disks.length : Int))) rfl hB1 (fun hb hB1 => ?_) fun hb hB1 => ?_
  ·refine sk ?_
   obtain ⟨v2, hv2, hB1⟩ := bindS hB1
   refine Ok.seqw ⟨Cat.tab [(1, .s (mA p_disks)), (2, vi p_server), (3, vi p_ver), (4, .s (mU p_data)), (5, .b 5 0), (11, .o 32), (12, vi s1.1)], [(5, .box [vi p_c.Id, vi p_c.Ver, .s (mI p_c.Servers)]), (32, .own 29 3 (mA v2))]⟩ ?_ ?_
   ·refine bl ?_
    refine sq ?_
    refine sg ?_
    refine wT [(1, .s (mA p_disks)), (2, vi p_server), (3, vi p_ver), (4, .s (mU p_data)), (5, .b 5 0), (11, .o 32), (12, vi s1.1), (25, vb (s1.1 != p_server))] [(5, .box [vi p_c.Id, vi p_c.Ver, .s (mI p_c.Servers)]), (32, .own 29 3 (mA s1.2))] Q8 J2 rfl ?_
    refine cn 25 (s1.1 != p_server) rfl hv2 (fun hb hv2 => ?_) fun hb hv2 => ?_
    ·refine sg ?_
     obtain ⟨x1, hx1, hv2⟩ := bindS hv2
     obtain ⟨hc1, hv2⟩ := chk_some hv2
     refine ⟨_, idx_nat hx1, _, idx_row hx1, _, rfl, Or.inl ⟨rowsLen_map (f := c_api_Disk) (n := 3) (fun _ => rfl) ([x1]), app_b2 (f := c_api_Disk) (l := s1.2) (l' := [x1]) hc1, _, (List.map_append (f := c_api_Disk) (l₁ := s1.2) (l₂ := [x1])).symm, ?_⟩⟩
     refine wT [(1, .s (mA p_disks)), (2, vi p_server), (3, vi p_ver), (4, .s (mU p_data)), (5, .b 5 0), (11, .o 32), (12, vi s1.1)] [(5, .box [vi p_c.Id, vi p_c.Ver, .s (mI p_c.Servers)]), (32, .own 29 3 (mA (s1.2 ++ [x1])))] Q7 J2 rfl ?_
     refine xt ?_
     cases hv2
     exact wt Q7 J2 rfl
    refine sk ?_
    refine sq ?_
    refine Ok.draw2 (m := 14) (late := [12]) (MD := ⟨[]⟩) (CH := ⟨[]⟩) Tryz.tok Tryz.mixed (by kernel_rfl) ?_
    obtain ⟨x2, hx2, hv2⟩ := bindS hv2
    obtain ⟨x3, hx3, hv2⟩ := bindS hv2
    obtain ⟨x4, hx4, hv2⟩ := bindS hv2
    refine ⟨_, rfl, _, rfl, _, ⟨_, idx_nat hx2, _, idx_row hx2, rfl⟩, _, ⟨_, rfl, rfl⟩, _, rfl, _, ⟨_, rfl, rfl⟩, _, rfl, _, rfl, _, ⟨_, .of_pure (w_ref25_New hx3) (LeL.refl _), rfl⟩, _, ⟨_, .of_pure (w_ref25_Put hx4) (LeL.refl _), rfl⟩, _, rfl, _, rfl, _, rfl, Q0, ?_⟩
    refine ⟨_, rfl, ⟨⟨_, rfl, rfl⟩, Q0⟩, ?_⟩
    refine wT [(1, .s (mA p_disks)), (2, vi p_server), (3, vi p_ver), (4, .s (mU p_data)), (5, .b 5 0), (11, .o 32), (12, vi s1.1), (13, .b 13 0)] [(5, .box [vi p_c.Id, vi p_c.Ver, .s (mI p_c.Servers)]), (32, .own 29 3 (mA s1.2)), (13, .box [.s (mB x4.1.Synced), .s (mB x4.1.Loose), vb x4.1.Down])] Q8 J3 rfl ?_
    refine sg ?_
    obtain ⟨x5, hx5, hv2⟩ := bindS hv2
    refine ⟨_, rfl, ?_⟩
    refine CallOk.call (w_ref04_Sync hx5) (LeL.refl _) ?_
    refine ⟨_, rfl, ?_⟩
    refine wT [(1, .s (mA p_disks)), (2, vi p_server), (3, vi p_ver), (4, .s (mU p_data)), (5, .b 5 0), (11, .o 32), (12, vi s1.1), (15, .b 15 0)] [(5, .box [vi p_c.Id, vi p_c.Ver, .s (mI p_c.Servers)]), (32, .own 29 3 (mA s1.2)), (15, .box [.s (mB x5.1.Synced), .s (mB x5.1.Loose), vb x5.1.Down])] Q8 J3 rfl ?_
    refine rg ?_
    obtain ⟨hc2, hv2⟩ := chk_some hv2
    refine ⟨_, rfl, Or.inl ⟨rowsLen_map (f := c_api_Disk) (n := 3) (fun _ => rfl) ([x5.1]), app_b2 (f := c_api_Disk) (l := s1.2) (l' := [x5.1]) hc2, _, (List.map_append (f := c_api_Disk) (l₁ := s1.2) (l₂ := [x5.1])).symm, ?_⟩⟩
    cases hv2
    exact wt Q7 J2 rfl
   refine rg ?_
   obtain ⟨hc3, hB1⟩ := chk_some hB1
   refine (Or.inl ⟨hc3, ?_⟩)
   exact ⟨_, sj hB1, wt Q7 J2 rfl⟩
  refine xt ?_
  have hB1 := out_ret hB1 hy1
  cases hB1
  exact wt Q1 J1 rfl
 refine sg ?_
 refine wT [(10, .o 32)] [(32, .own 29 3 (mA v1))] Q1 J1 rfl ?_
 refine rt ?_
 cases h
 exact (.inr ⟨_, rfl, rfl⟩)
theorem w_ref26_Lay {p_c} {p_disks} {p_server} {p_ver} {p_data} {r} (h : ref26_Lay p_c p_disks p_server p_ver p_data = some r) : Pure Tryz.prog 41 [(.a [(vi p_c.Id), (vi p_c.Ver), (.s (mI p_c.Servers))]), (.s (mA p_disks)), (vi p_server), (vi p_ver), (.s (mU p_data))] (.s (mA r)) := (wo_ref26_Lay h).pure
end Go.Proofs
