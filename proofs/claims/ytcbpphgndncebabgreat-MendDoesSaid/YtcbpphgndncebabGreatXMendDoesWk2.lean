/- The walks of this seat beside the plain programs, part 2. No condition. -/
import Derived.Test.YtcbpphgndncebabGreatXMendDoesEn
import Derived.Test.YtcbpphgndncebabGreatXMendDoesWk0
import Derived.Test.YtcbpphgndncebabGreatXMendDoesWk1
namespace Go.Proofs
set_option linter.all false
open Go Go.Cat
variable [M : Mono]
set_option maxRecDepth 100000
theorem w_diskN2 {p_d} {p_at} {p_data} {r} (h : disk_Write p_d p_at p_data = some r) : Pure Tryz.prog 86 [(.a [(.s (mB p_d.Synced)), (.s (mB p_d.Loose)), (vb p_d.Down)]), (vi p_at), (.s (mI p_data))] (.t [(.a [(.s (mB r.1.Synced)), (.s (mB r.1.Loose)), (vb r.1.Down)]), (vi r.2)]) := by
 refine po Tryz.tok 29 Tryz.func86 (by kernel_rfl) rfl rfl rfl ?_
 unfold disk_Write at h
 refine wE [(0, .a [.s (mB p_d.Synced), .s (mB p_d.Loose), vb p_d.Down]), (1, vi p_at), (2, .s (mI p_data))] Q3 ?_
 refine sg ?_
 refine wT [(1, vi p_at), (2, .s (mI p_data)), (3, .b 3 0), (6, .b 6 0)] [(3, .box [.s (mB p_d.Synced), .s (mB p_d.Loose), vb p_d.Down]), (6, .box [.v (.slice none 0 0), .v (.slice none 0 0), vb false])] Q4 J2 rfl ?_
 refine sq ?_
 refine bl ?_
 refine sg ?_
 refine ⟨_, rfl, ?_⟩
 refine wT [(1, vi p_at), (2, .s (mI p_data)), (3, .b 3 0), (6, .b 6 0), (8, vb p_d.Down)] [(3, .box [.s (mB p_d.Synced), .s (mB p_d.Loose), vb p_d.Down]), (6, .box [.v (.slice none 0 0), .v (.slice none 0 0), vb false])] Q5 J2 rfl ?_
 refine cn 8 (p_d.Down) rfl h (fun hb h => ?_) fun hb h => ?_
 ·refine sg ?_
  refine ⟨_, rfl, _, rfl, ?_⟩
  refine wT [(6, .b 6 0), (7, vi (40))] [(6, .box [.s (mB p_d.Synced), .s (mB p_d.Loose), vb p_d.Down])] Q2 J1 rfl ?_
  refine rt ?_
  cases h
  exact ⟨_, rfl, (Fz.t (.cons (Fz.imm rfl) (.cons Fz.v .nil)))⟩
 refine sg ?_
 obtain ⟨x1, hx1, h⟩ := bindS h
 refine CallOk.call (w_disk_may hx1) (LeL.refl _) ?_
 refine wT [(1, vi p_at), (2, .s (mI p_data)), (3, .b 3 0), (6, .b 6 0), (12, vb (!x1))] [(3, .box [.s (mB p_d.Synced), .s (mB p_d.Loose), vb p_d.Down]), (6, .box [.v (.slice none 0 0), .v (.slice none 0 0), vb false])] Q5 J2 rfl ?_
 refine cn 12 (!x1) rfl h (fun hb h => ?_) fun hb h => ?_
 ·refine sg ?_
  refine ⟨_, rfl, _, rfl, ?_⟩
  refine wT [(6, .b 6 0), (7, vi (1))] [(6, .box [.s (mB p_d.Synced), .s (mB p_d.Loose), vb p_d.Down])] Q2 J1 rfl ?_
  refine rt ?_
  cases h
  exact ⟨_, rfl, (Fz.t (.cons (Fz.imm rfl) (.cons Fz.v .nil)))⟩
 refine sk ?_
 refine sg ?_
 obtain ⟨x2, hx2, h⟩ := bindS h
 refine ⟨_, rfl, ?_⟩
 refine CallOk.own (D := 20) (wo_slicesN3 hx2) (LeL.refl _) rfl ?_
 obtain ⟨x3, hx3, h⟩ := bindS h
 refine CallOk.call (w_bytesN1 hx3) (LeL.refl _) ?_
 obtain ⟨hc1, h⟩ := chk_some h
 refine Or.inl ⟨rowsLen_map (f := c_api_Page) (n := 2) (fun _ => rfl) ([(⟨p_at, x3⟩ : api_Page)]), app_b2 (f := c_api_Page) (l := x2) (l' := [(⟨p_at, x3⟩ : api_Page)]) hc1, _, (List.map_append (f := c_api_Page) (l₁ := x2) (l₂ := [(⟨p_at, x3⟩ : api_Page)])).symm, _, rfl, ?_⟩
 refine wT [(3, .b 3 0), (6, .b 6 0)] [(3, .box [.s (mB p_d.Synced), .o 20, vb p_d.Down]), (20, .own 85 2 (mB (x2 ++ [(⟨p_at, x3⟩ : api_Page)]))), (6, .box [.v (.slice none 0 0), .v (.slice none 0 0), vb false])] Q2 J3 rfl ?_
 refine sg ?_
 refine ⟨_, rfl, _, rfl, ?_⟩
 refine wT [(6, .b 6 0), (7, vi (0))] [(6, .box [.s (mB p_d.Synced), .o 20, vb p_d.Down]), (20, .own 85 2 (mB (x2 ++ [(⟨p_at, x3⟩ : api_Page)])))] Q2 J2 rfl ?_
 refine rt ?_
 cases h
 exact ⟨_, rfl, (Fz.t (.cons (Fz.a (.cons Fz.s (.cons (Fz.o rfl) (.cons Fz.v .nil)))) (.cons Fz.v .nil)))⟩
theorem w_chunk_Put {p_d} {p_c} {r} (h : chunk_Put p_d p_c = some r) : Pure Tryz.prog 56 [(.a [(.s (mB p_d.Synced)), (.s (mB p_d.Loose)), (vb p_d.Down)]), (.a [(vi p_c.Id), (vi p_c.Ver), (.s (mI p_c.Data)), (.s (mU p_c.Sums))])] (.t [(.a [(.s (mB r.1.Synced)), (.s (mB r.1.Loose)), (vb r.1.Down)]), (vi r.2)]) := by
 refine po Tryz.tok 18 Tryz.func56 (by kernel_rfl) rfl rfl rfl ?_
 unfold chunk_Put at h
 refine wE [(0, .a [.s (mB p_d.Synced), .s (mB p_d.Loose), vb p_d.Down]), (1, .a [vi p_c.Id, vi p_c.Ver, .s (mI p_c.Data), .s (mU p_c.Sums)])] Q2 ?_
 refine sg ?_
 refine wT [(2, .b 2 0), (3, .b 3 0), (4, .b 4 0)] [(2, .box [.s (mB p_d.Synced), .s (mB p_d.Loose), vb p_d.Down]), (3, .box [vi p_c.Id, vi p_c.Ver, .s (mI p_c.Data), .s (mU p_c.Sums)]), (4, .box [.v (.slice none 0 0), .v (.slice none 0 0), vb false])] Q3 J3 rfl ?_
 refine sq ?_
 refine sg ?_
 obtain ⟨x1, hx1, h⟩ := bindS h
 refine ⟨_, rfl, ?_⟩
 refine CallOk.call (w_chunk_may hx1) (LeL.refl _) ?_
 refine wT [(2, .b 2 0), (3, .b 3 0), (4, .b 4 0), (8, vb (!x1))] [(2, .box [.s (mB p_d.Synced), .s (mB p_d.Loose), vb p_d.Down]), (3, .box [vi p_c.Id, vi p_c.Ver, .s (mI p_c.Data), .s (mU p_c.Sums)]), (4, .box [.v (.slice none 0 0), .v (.slice none 0 0), vb false])] Q4 J3 rfl ?_
 refine cn 8 (!x1) rfl h (fun hb h => ?_) fun hb h => ?_
 ·refine sg ?_
  refine ⟨_, rfl, _, rfl, ?_⟩
  refine wT [(4, .b 4 0), (5, vi (1))] [(4, .box [.s (mB p_d.Synced), .s (mB p_d.Loose), vb p_d.Down])] Q2 J1 rfl ?_
  refine rt ?_
  cases h
  exact ⟨_, rfl, (Fz.t (.cons (Fz.imm rfl) (.cons Fz.v .nil)))⟩
 refine sk ?_
 refine sq ?_
 refine Ok.draw (m := 8) (MD := ⟨[]⟩) (CH := ⟨[]⟩) Tryz.tok Tryz.mixed (by kernel_rfl) ?_
 obtain ⟨x2, hx2, h⟩ := bindS h
 obtain ⟨x3, hx3, h⟩ := bindS h
 refine ⟨_, ⟨_, rfl, rfl⟩, _, rfl, _, ⟨_, rfl, rfl⟩, _, ⟨_, rfl, rfl⟩, _, ⟨_, .of_pure (w_chunkN1 hx2) (LeL.refl _), rfl⟩, _, ⟨_, .of_pure (w_diskN2 hx3) (LeL.refl _), rfl⟩, _, rfl, _, rfl, Q0, _, rfl, ?_⟩
 refine wT [(4, .b 4 0), (5, vi x3.2)] [(4, .box [.s (mB x3.1.Synced), .s (mB x3.1.Loose), vb x3.1.Down])] Q2 J1 rfl ?_
 refine rt ?_
 cases h
 exact ⟨_, rfl, (Fz.t (.cons (Fz.imm rfl) (.cons Fz.v .nil)))⟩
theorem wo_diskN1 [Off] {p_l} {p_over} {r} (h : disk_laid p_l p_over = some r) : POwn Tryz.prog 131 [(.s (mB p_l)), (.s (mB p_over))] 85 2 (mB r) := by
 refine pw Tryz.tok 42 Tryz.func131 (by kernel_rfl) rfl rfl rfl ?_
 unfold disk_laid at h
 refine wE [(0, .s (mB p_l)), (1, .s (mB p_over))] Q2 ?_
 refine sg ?_
 refine wE [(0, .s (mB p_l)), (1, .s (mB p_over))] Q2 ?_
 refine sg ?_
 refine wT [(0, .s (mB p_l)), (1, .s (mB p_over)), (5, .m 11)] [(11, .mp true (List.map (fun p => (p.1, c_api_Page p.2)) ([] : List (Int × api_Page))))] Q3 ⟨⟨_, rfl, .refl _⟩, Q0⟩ rfl ?_
 obtain ⟨v1, hv1, h⟩ := bindS h
 refine Ok.seqw ⟨Cat.tab [(5, .m 11)], [(11, .mp true (List.map (fun p => (p.1, c_api_Page p.2)) v1))]⟩ ?_ ?_
 ·refine sg ?_
  obtain ⟨x1, hx1, hv1⟩ := bindS hv1
  refine Or.inl ?_
  refine CallOk.call (w_slicesN1 hx1) (LeL.refl _) ?_
  refine ⟨_, List.length_map _, fun _ => ?_⟩
  refine wT [(5, .m 11), (15, .s (mB x1)), (16, vi (x1.length : Int)), (17, vi (0))] [(11, .mp true (List.map (fun p => (p.1, c_api_Page p.2)) ([] : List (Int × api_Page))))] Q4 ⟨⟨_, rfl, .refl _⟩, Q0⟩ rfl ?_
  refine bl ?_
  refine Ok.loop (fun (s1 : Int × (List (Int × api_Page))) => ⟨Cat.tab [(5, .m 11), (15, .s (mB x1)), (16, vi (x1.length : Int)), (17, vi s1.1)], [(11, .mp true (List.map (fun p => (p.1, c_api_Page p.2)) s1.2))]⟩) (diskN2 x1) (s0 := (0, ([] : List (Int × api_Page)))) hv1 (wt Q4 ⟨⟨_, rfl, .refl _⟩, Q0⟩ rfl) ?_
  intro s1 y1 hB1 hy1
  unfold diskN2 at hB1
  refine sg ?_
  refine wT [(5, .m 11), (15, .s (mB x1)), (16, vi (x1.length : Int)), (17, vi s1.1), (18, vb (decide (s1.1 < (x1.length : Int))))] [(11, .mp true (List.map (fun p => (p.1, c_api_Page p.2)) s1.2))] Q5 ⟨⟨_, rfl, .refl _⟩, Q0⟩ rfl ?_
  refine sq ?_
  refine cn 18 (decide (s1.1 < (x1.length : Int))) rfl hB1 (fun hb hB1 => ?_) fun hb hB1 => ?_
  ·refine sk ?_
   refine sq ?_
   refine bl ?_
   refine sg ?_
   obtain ⟨x2, hx2, hB1⟩ := bindS hB1
   refine ⟨_, idx_nat hx2, _, idx_row hx2, _, rfl, _, rfl, ?_⟩
   refine wT [(5, .m 11), (7, .b 7 0), (15, .s (mB x1)), (16, vi (x1.length : Int)), (17, vi s1.1)] [(11, .mp true (List.map (fun p => (p.1, c_api_Page p.2)) s1.2)), (7, .box [vi x2.At, .s (mI x2.Data)])] Q5 ⟨⟨_, rfl, .refl _⟩, ⟨_, rfl, .refl _⟩, Q0⟩ rfl ?_
   refine rg ?_
   obtain ⟨hc1, hB1⟩ := chk_some hB1
   refine ⟨_, rfl, _, rfl, hc1.1, Nat.lt_of_le_of_lt (Nat.le_of_eq (List.length_map _)) hc1.2, _, mset_map c_api_Page x2.At x2 s1.2, ?_⟩
   refine wT [(5, .m 11), (15, .s (mB x1)), (16, vi (x1.length : Int)), (17, vi s1.1)] [(11, .mp true (List.map (fun p => (p.1, c_api_Page p.2)) (mset x2.At x2 s1.2)))] Q4 ⟨⟨_, rfl, .refl _⟩, Q0⟩ rfl ?_
   refine rg ?_
   obtain ⟨hc2, hB1⟩ := chk_some hB1
   refine (Or.inl ⟨hc2, ?_⟩)
   exact ⟨_, sj hB1, wt Q4 J1 rfl⟩
  refine xt ?_
  have hB1 := out_ret hB1 hy1
  cases hB1
  exact wt Q1 J1 rfl
 refine sg ?_
 refine wT [(5, .m 11), (8, .v (.slice none 0 0))] [(11, .mp true (List.map (fun p => (p.1, c_api_Page p.2)) v1))] Q2 ⟨⟨_, rfl, .refl _⟩, Q0⟩ rfl ?_
 obtain ⟨v2, hv2, h⟩ := bindS h
 refine Ok.seqw ⟨Cat.tab [(8, .o 39)], [(39, .own 85 2 (mB v2))]⟩ ?_ ?_
 ·refine sg ?_
  refine CallOk.keys (D := 27) Tryz.keysS163 Tryz.enters163 rfl rfl rfl ?_
  obtain ⟨hc3, hv2⟩ := chk_some hv2
  obtain ⟨x3, hx3, hv2⟩ := bindS hv2
  refine CallOk.sortedKeys (D := 27) (D2 := 28) Tryz.sortedS162_172 Tryz.enters162 rfl rfl (klen hc3) (ksort hx3) rfl ?_
  refine ⟨_, List.length_map _, fun _ => ?_⟩
  refine wT [(5, .m 11), (8, .v (.slice none 0 0)), (28, .o 28), (29, vi (x3.length : Int)), (30, vi (0))] [(11, .mp true (List.map (fun p => (p.1, c_api_Page p.2)) v1)), (28, .own 3 1 (mU x3))] Q5 ⟨⟨_, rfl, .refl _⟩, ⟨_, rfl, .refl _⟩, Q0⟩ rfl ?_
  refine bl ?_
  refine Ok.loop (fun (s2 : Int × (List api_Page)) => ⟨Cat.tab [(5, .m 11), (8, .o 39), (28, .o 28), (29, vi (x3.length : Int)), (30, vi s2.1)], [(11, .mp true (List.map (fun p => (p.1, c_api_Page p.2)) v1)), (39, .own 85 2 (mB s2.2)), (28, .own 3 1 (mU x3))]⟩) (diskN3 x3 v1) (s0 := (0, [])) hv2 ((Wk.own0 (t := 8) (id := 39) (E := 85) (K := 2) rfl rfl).trans (wt Q5 ⟨⟨_, rfl, .refl _⟩, ⟨_, rfl, .refl _⟩, ⟨_, rfl, .refl _⟩, Q0⟩ rfl)) ?_
  intro s2 y2 hB2 hy2
  unfold diskN3 at hB2
  refine sg ?_
  refine wT [(5, .m 11), (8, .o 39), (28, .o 28), (29, vi (x3.length : Int)), (30, vi s2.1), (31, vb (decide (s2.1 < (x3.length : Int))))] [(11, .mp true (List.map (fun p => (p.1, c_api_Page p.2)) v1)), (39, .own 85 2 (mB s2.2)), (28, .own 3 1 (mU x3))] Q6 ⟨⟨_, rfl, .refl _⟩, ⟨_, rfl, .refl _⟩, ⟨_, rfl, .refl _⟩, Q0⟩ rfl ?_
  refine sq ?_
  refine cn 31 (decide (s2.1 < (x3.length : Int))) rfl hB2 (fun hb hB2 => ?_) fun hb hB2 => ?_
  ·refine sk ?_
   refine sq ?_
   refine bl ?_
   refine sg ?_
   obtain ⟨x4, hx4, hB2⟩ := bindS hB2
   refine ⟨_, idx_nat hx4, idx_ltm hx4, _, idx_row hx4, rfl, _, rfl, ?_⟩
   refine wT [(5, .m 11), (8, .o 39), (10, vi x4), (28, .o 28), (29, vi (x3.length : Int)), (30, vi s2.1)] [(11, .mp true (List.map (fun p => (p.1, c_api_Page p.2)) v1)), (39, .own 85 2 (mB s2.2)), (28, .own 3 1 (mU x3))] Q6 ⟨⟨_, rfl, .refl _⟩, ⟨_, rfl, .refl _⟩, ⟨_, rfl, .refl _⟩, Q0⟩ rfl ?_
   refine rg ?_
   obtain ⟨x5, hx5, hB2⟩ := bindS hB2
   obtain ⟨hc4, hB2⟩ := chk_some hB2
   refine ⟨_, lk_val c_api_Page (z := ((⟨0, []⟩ : api_Page) : api_Page)) hx5, Or.inl ⟨rowsLen_map (f := c_api_Page) (n := 2) (fun _ => rfl) ([x5]), app_b2 (f := c_api_Page) (l := s2.2) (l' := [x5]) hc4, _, (List.map_append (f := c_api_Page) (l₁ := s2.2) (l₂ := [x5])).symm, ?_⟩⟩
   refine wT [(5, .m 11), (8, .o 39), (28, .o 28), (29, vi (x3.length : Int)), (30, vi s2.1)] [(11, .mp true (List.map (fun p => (p.1, c_api_Page p.2)) v1)), (39, .own 85 2 (mB (s2.2 ++ [x5]))), (28, .own 3 1 (mU x3))] Q5 ⟨⟨_, rfl, .refl _⟩, ⟨_, rfl, .refl _⟩, ⟨_, rfl, .refl _⟩, Q0⟩ rfl ?_
   refine rg ?_
   obtain ⟨hc5, hB2⟩ := chk_some hB2
   refine (Or.inl ⟨hc5, ?_⟩)
   exact ⟨_, sj hB2, wt Q5 J3 rfl⟩
  refine xt ?_
  have hB2 := out_ret hB2 hy2
  cases hB2
  exact wt Q1 J1 rfl
 refine sg ?_
 refine wT [(4, .o 39)] [(39, .own 85 2 (mB v2))] Q1 J1 rfl ?_
 refine rt ?_
 cases h
 exact (.inr ⟨_, rfl, rfl⟩)
theorem w_disk_laid [Off] {p_l} {p_over} {r} (h : disk_laid p_l p_over = some r) : Pure Tryz.prog 131 [(.s (mB p_l)), (.s (mB p_over))] (.s (mB r)) := (wo_diskN1 h).pure
theorem w_disk_Sync [Off] {p_d} {r} (h : disk_Sync p_d = some r) : Pure Tryz.prog 84 [(.a [(.s (mB p_d.Synced)), (.s (mB p_d.Loose)), (vb p_d.Down)])] (.t [(.a [(.s (mB r.1.Synced)), (.s (mB r.1.Loose)), (vb r.1.Down)]), (vi r.2)]) := by
 refine po Tryz.tok 13 Tryz.func84 (by kernel_rfl) rfl rfl rfl ?_
 unfold disk_Sync at h
 refine wE [(0, .a [.s (mB p_d.Synced), .s (mB p_d.Loose), vb p_d.Down])] Q1 ?_
 refine sg ?_
 refine wT [(1, .b 1 0), (2, .b 2 0)] [(1, .box [.s (mB p_d.Synced), .s (mB p_d.Loose), vb p_d.Down]), (2, .box [.v (.slice none 0 0), .v (.slice none 0 0), vb false])] Q2 J2 rfl ?_
 refine sq ?_
 refine sg ?_
 refine ⟨_, rfl, ?_⟩
 refine wT [(1, .b 1 0), (2, .b 2 0), (5, vb p_d.Down)] [(1, .box [.s (mB p_d.Synced), .s (mB p_d.Loose), vb p_d.Down]), (2, .box [.v (.slice none 0 0), .v (.slice none 0 0), vb false])] Q3 J2 rfl ?_
 refine cn 5 (p_d.Down) rfl h (fun hb h => ?_) fun hb h => ?_
 ·refine sg ?_
  refine ⟨_, rfl, _, rfl, ?_⟩
  refine wT [(2, .b 2 0), (3, vi (40))] [(2, .box [.s (mB p_d.Synced), .s (mB p_d.Loose), vb p_d.Down])] Q2 J1 rfl ?_
  refine rt ?_
  cases h
  exact ⟨_, rfl, (Fz.t (.cons (Fz.imm rfl) (.cons Fz.v .nil)))⟩
 refine sk ?_
 refine sg ?_
 obtain ⟨x1, hx1, h⟩ := bindS h
 refine ⟨_, rfl, _, rfl, ?_⟩
 refine CallOk.call (w_disk_laid hx1) (LeL.refl _) ?_
 refine ⟨_, rfl, ?_⟩
 refine wT [(2, .b 2 0), (3, vi (0))] [(2, .box [.s (mB x1), .v (.slice none 0 0), vb false])] Q2 J1 rfl ?_
 refine rt ?_
 cases h
 exact ⟨_, rfl, (Fz.t (.cons (Fz.a (.cons Fz.s (.cons Fz.nil (.cons Fz.v .nil)))) (.cons Fz.v .nil)))⟩
theorem wo_slicesN1 {p_s} {r} (h : slicesN1 p_s = some r) : POwn Tryz.prog 85 [(.s (mC p_s))] 55 3 (mC r) := by
 refine pw Tryz.tok 8 Tryz.func85 (by kernel_rfl) rfl rfl rfl ?_
 unfold slicesN1 at h
 refine wE [(0, .s (mC p_s))] Q1 ?_
 refine sg ?_
 refine wE [(0, .s (mC p_s))] Q1 ?_
 refine sq ?_
 refine sg ?_
 intro b1 hb1
 have h := anyOf_some h b1 (fun e => List.map_eq_nil_iff.1 (hb1 e))
 refine wE [(0, .s (mC p_s)), (4, vb b1)] Q2 ?_
 refine cn 4 (b1) rfl h (fun hb h => ?_) fun hb h => ?_
 ·refine sg ?_
  refine wE [(2, .v (.slice none 0 0))] Q1 ?_
  refine rt ?_
  cases h
  exact (.inl ⟨rfl, rfl⟩)
 refine sk ?_
 refine sg ?_
 obtain ⟨hc1, h⟩ := chk_some h
 refine Or.inr ⟨rowsLen_map (f := c_api_Disk) (n := 3) (fun _ => rfl) p_s, app_b2 (f := c_api_Disk) (l := ([] : List api_Disk)) (l' := p_s) hc1, _, (List.map_append (f := c_api_Disk) (l₁ := ([] : List api_Disk)) (l₂ := p_s)).symm, ?_⟩
 refine wT [(2, .o 5)] [(5, .own 55 3 (mC (([] : List api_Disk) ++ p_s)))] Q1 J1 rfl ?_
 refine rt ?_
 cases h
 exact (.inr ⟨_, rfl, rfl⟩)
theorem wg_scrubN1 {p_d} {p_b0} {r} (h : scrubN1 p_d p_b0 = some r) : CallOk Tryz.prog 55 [(.a [(.s (mB p_d.Synced)), (.s (mB p_d.Loose)), (vb p_d.Down)]), (.b 1000 0)] ⟨noSlots, [(1000, .box [(vi p_b0.Id), (vi p_b0.Ver), (.s (mI p_b0.Data)), (.s (mU p_b0.Sums))])]⟩ fun x s => x = (.t [(.a [(.s (mB r.1)), (.s (mB r.2.1)), (vb r.2.2.1)]), (vi r.2.2.2)]) ∧ s.H = [(1000, .box [(vi p_b0.Id), (vi p_b0.Ver), (.s (mI p_b0.Data)), (.s (mU p_b0.Sums))])] := by
 refine pgen_of_ok (n := 10) (c := Tryz.f55.body.getD .skip) Tryz.tok Tryz.func55 (by kernel_rfl) rfl rfl (Nat.le_of_ble_eq_true rfl) ?_
 unfold scrubN1 at h
 refine wT [(0, .a [.s (mB p_d.Synced), .s (mB p_d.Loose), vb p_d.Down]), (1, .b 1000 0)] [(1000, .box [vi p_b0.Id, vi p_b0.Ver, .s (mI p_b0.Data), .s (mU p_b0.Sums)])] Q2 J1 rfl ?_
 refine sg ?_
 refine wT [(1, .b 1000 0), (2, .b 2 0), (3, .b 3 0)] [(1000, .box [vi p_b0.Id, vi p_b0.Ver, .s (mI p_b0.Data), .s (mU p_b0.Sums)]), (2, .box [.s (mB p_d.Synced), .s (mB p_d.Loose), vb p_d.Down]), (3, .box [.v (.slice none 0 0), .v (.slice none 0 0), vb false])] Q3 J3 rfl ?_
 refine sg ?_
 obtain ⟨x1, hx1, h⟩ := bindS h
 refine ⟨_, rfl, _, rfl, ?_⟩
 refine CallOk.call (w_chunk_Put hx1) (LeL.refl _) ?_
 refine ⟨_, rfl, ?_⟩
 refine wT [(3, .b 3 0), (4, vi x1.2)] [(3, .box [.s (mB x1.1.Synced), .s (mB x1.1.Loose), vb x1.1.Down]), (1000, .box [vi p_b0.Id, vi p_b0.Ver, .s (mI p_b0.Data), .s (mU p_b0.Sums)])] Q2 J2 rfl ?_
 refine rt ?_
 cases h
 exact ⟨_, rfl, wt Q1 J1 rfl⟩
theorem wg_scrubN7 [Off] {p_disks} {p_s} {p_b0} {r} (h : scrubN17 p_disks p_s p_b0 = some r) : CallOk Tryz.prog 54 [(.s (mC p_disks)), (vi p_s), (.c (.func 55) [] [(.b 1000 0)])] ⟨noSlots, [(1000, .box [(vi p_b0.Id), (vi p_b0.Ver), (.s (mI p_b0.Data)), (.s (mU p_b0.Sums))])]⟩ fun x s => x = (.t [(.s (mC r.1)), (vi r.2)]) ∧ s.H = [(1000, .box [(vi p_b0.Id), (vi p_b0.Ver), (.s (mI p_b0.Data)), (.s (mU p_b0.Sums))])] := by
 refine pgen_of_ok (n := 38) (c := Tryz.f54.body.getD .skip) Tryz.tok Tryz.func54 (by kernel_rfl) rfl rfl (Nat.le_of_ble_eq_true rfl) ?_
 unfold scrubN17 at h
 refine wT [(0, .s (mC p_disks)), (1, vi p_s), (2, .c (.func 55) [] [.b 1000 0])] [(1000, .box [vi p_b0.Id, vi p_b0.Ver, .s (mI p_b0.Data), .s (mU p_b0.Sums)])] Q3 J1 rfl ?_
 refine sg ?_
 refine wT [(0, .s (mC p_disks)), (1, vi p_s), (2, .c (.func 55) [] [.b 1000 0])] [(1000, .box [vi p_b0.Id, vi p_b0.Ver, .s (mI p_b0.Data), .s (mU p_b0.Sums)])] Q3 J1 rfl ?_
 refine sg ?_
 obtain ⟨x1, hx1, h⟩ := bindS h
 obtain ⟨x3, hx3, h⟩ := bindS h
 refine ⟨_, idx_nat hx1, _, idx_row hx1, _, rfl, ?_⟩
 refine CallOk.gen (m := [(1000, 1000)]) (n := []) (wg_scrubN1 hx3) (.cons (Ln.imm rfl) (.cons (Ln.b rfl) (.nil))) ⟨⟨1000, _, rfl, rfl, .box (.cons (Ln.imm rfl) (.cons (Ln.imm rfl) (.cons (Ln.imm rfl) (.cons (Ln.imm rfl) (.nil)))))⟩, Q0⟩ rfl rfl rfl ?_
 refine ⟨_, rfl, ?_⟩
 refine wT [(0, .s (mC p_disks)), (1, vi p_s), (8, .b 8 0), (9, vi x3.2.2.2)] [(8, .box [.s (mB x3.1), .s (mB x3.2.1), vb x3.2.2.1]), (1000, .box [vi p_b0.Id, vi p_b0.Ver, .s (mI p_b0.Data), .s (mU p_b0.Sums)])] Q4 J2 rfl ?_
 obtain ⟨v1, hv1, h⟩ := bindS h
 refine Ok.seqw ⟨Cat.tab [(0, .s (mC p_disks)), (1, vi p_s), (8, .b 8 0), (9, vi v1.1)], [(8, .box [.s (mB v1.2.1), .s (mB v1.2.2.1), vb v1.2.2.2]), (1000, .box [vi p_b0.Id, vi p_b0.Ver, .s (mI p_b0.Data), .s (mU p_b0.Sums)])]⟩ ?_ ?_
 ·refine sg ?_
  refine wT [(0, .s (mC p_disks)), (1, vi p_s), (8, .b 8 0), (9, vi x3.2.2.2), (21, vb (x3.2.2.2 == 0))] [(8, .box [.s (mB x3.1), .s (mB x3.2.1), vb x3.2.2.1]), (1000, .box [vi p_b0.Id, vi p_b0.Ver, .s (mI p_b0.Data), .s (mU p_b0.Sums)])] Q5 J2 rfl ?_
  refine cn 21 (x3.2.2.2 == 0) rfl hv1 (fun hb hv1 => ?_) fun hb hv1 => ?_
  ·refine rg ?_
   obtain ⟨x4, hx4, hv1⟩ := bindS hv1
   refine ⟨_, rfl, ?_⟩
   refine CallOk.call (w_disk_Sync hx4) (LeL.refl _) ?_
   refine ⟨_, rfl, ?_⟩
   cases hv1
   exact wt Q4 J2 rfl
  refine sk ?_
  cases hv1
  exact wt Q4 J2 rfl
 refine sq ?_
 refine sg ?_
 refine wT [(0, .s (mC p_disks)), (1, vi p_s), (8, .b 8 0), (9, vi v1.1), (28, vb (v1.1 != 0))] [(8, .box [.s (mB v1.2.1), .s (mB v1.2.2.1), vb v1.2.2.2]), (1000, .box [vi p_b0.Id, vi p_b0.Ver, .s (mI p_b0.Data), .s (mU p_b0.Sums)])] Q5 J2 rfl ?_
 refine cn 28 (v1.1 != 0) rfl h (fun hb h => ?_) fun hb h => ?_
 ·refine sg ?_
  refine wT [(6, .s (mC p_disks)), (7, vi v1.1)] [(1000, .box [vi p_b0.Id, vi p_b0.Ver, .s (mI p_b0.Data), .s (mU p_b0.Sums)])] Q2 J1 rfl ?_
  refine rt ?_
  cases h
  exact wt Q1 J1 rfl
 refine sk ?_
 refine sg ?_
 obtain ⟨x5, hx5, h⟩ := bindS h
 refine CallOk.own (D := 32) (wo_slicesN1 hx5) (LeL.refl _) rfl ?_
 refine wT [(1, vi p_s), (8, .b 8 0), (10, .o 32)] [(8, .box [.s (mB v1.2.1), .s (mB v1.2.2.1), vb v1.2.2.2]), (32, .own 55 3 (mC x5)), (1000, .box [vi p_b0.Id, vi p_b0.Ver, .s (mI p_b0.Data), .s (mU p_b0.Sums)])] Q3 J3 rfl ?_
 refine sg ?_
 obtain ⟨x6, hx6, h⟩ := bindS h
 refine ⟨_, rfl, _, idx_nat hx6, idx_ltm hx6, _, idx_row hx6, rfl, _, rfl, _, set_row (f := c_api_Disk) (x := (⟨v1.2.1, v1.2.2.1, v1.2.2.2⟩ : api_Disk)), ?_⟩
 refine wT [(10, .o 32)] [(32, .own 55 3 (mC (x5.set p_s.toNat (⟨v1.2.1, v1.2.2.1, v1.2.2.2⟩ : api_Disk)))), (1000, .box [vi p_b0.Id, vi p_b0.Ver, .s (mI p_b0.Data), .s (mU p_b0.Sums)])] Q1 J2 rfl ?_
 refine sg ?_
 refine wT [(6, .o 32), (7, vi (0))] [(32, .own 55 3 (mC (x5.set p_s.toNat (⟨v1.2.1, v1.2.2.1, v1.2.2.2⟩ : api_Disk)))), (1000, .box [vi p_b0.Id, vi p_b0.Ver, .s (mI p_b0.Data), .s (mU p_b0.Sums)])] Q2 J2 rfl ?_
 refine rt ?_
 cases h
 exact (Wk.freeze (id := 32) rfl).trans (wt Q1 ⟨⟨_, rfl, .refl _⟩, Q0⟩ rfl)
theorem w_scrubN1 [Off] {p_disks} {p_j} {r} (h : scrub_Copy p_disks p_j = some r) : Pure Tryz.prog 27 [(.s (mC p_disks)), (.a [(vi p_j.Id), (vi p_j.Ver), (vi p_j.From), (vi p_j.To), (vi p_j.Have), (vi p_j.Left)])] (.t [(.s (mC r.1)), (vi r.2)]) := by
 refine po Tryz.tok 51 Tryz.func27 (by kernel_rfl) rfl rfl rfl ?_
 unfold scrub_Copy at h
 refine wE [(0, .s (mC p_disks)), (1, .a [vi p_j.Id, vi p_j.Ver, vi p_j.From, vi p_j.To, vi p_j.Have, vi p_j.Left])] Q2 ?_
 refine sg ?_
 refine wT [(0, .s (mC p_disks)), (3, .b 3 0)] [(3, .box [vi p_j.Id, vi p_j.Ver, vi p_j.From, vi p_j.To, vi p_j.Have, vi p_j.Left])] Q2 J1 rfl ?_
 refine sq ?_
 obtain ⟨v1, hv1, h⟩ := bindS h
 refine Ok.seqw ⟨Cat.tab [(0, .s (mC p_disks)), (3, .b 3 0), (19, vb v1)], [(3, .box [vi p_j.Id, vi p_j.Ver, vi p_j.From, vi p_j.To, vi p_j.Have, vi p_j.Left])]⟩ ?_ ?_
 ·refine rg ?_
  obtain ⟨x1, hx1, hv1⟩ := bindS hv1
  refine ⟨_, rfl, ?_⟩
  refine CallOk.call (w_scrubN8 hx1) (LeL.refl _) ?_
  obtain ⟨c1, hg1, hv1⟩ := bindS hv1
  refine Br.itf hg1 (fun hb hg1 => ?_) fun hb hg1 => ?_
  ·cases hg1
   cases hv1
   exact wt Q3 J1 rfl
  obtain ⟨x2, hx2, hg1⟩ := bindS hg1
  refine ⟨_, rfl, ?_⟩
  refine CallOk.call (w_scrubN8 hx2) (LeL.refl _) ?_
  cases hg1
  cases hv1
  exact wt Q3 J1 rfl
 refine cn 19 (v1) rfl h (fun hb h => ?_) fun hb h => ?_
 ·refine sg ?_
  refine wE [(4, .s (mC p_disks)), (5, vi (1))] Q2 ?_
  refine rt ?_
  cases h
  exact (Fz.t (.cons Fz.s (.cons Fz.v .nil)))
 refine sk ?_
 refine sq ?_
 refine Ok.draw2 (m := 12) (late := [10]) (MD := ⟨[]⟩) (CH := ⟨[]⟩) Tryz.tok Tryz.mixed (by kernel_rfl) ?_
 obtain ⟨x3, hx3, h⟩ := bindS h
 obtain ⟨x4, hx4, h⟩ := bindS h
 refine ⟨_, rfl, _, rfl, _, ⟨_, rfl, rfl⟩, _, ⟨_, idx_nat hx3, _, idx_row hx3, rfl⟩, _, ⟨_, rfl, rfl⟩, _, rfl, _, ⟨_, rfl, rfl⟩, _, ⟨_, .of_pure (w_chunk_Get hx4) (LeL.refl _), rfl⟩, _, rfl, _, rfl, _, rfl, Q0, ?_⟩
 refine ⟨_, rfl, ⟨⟨_, rfl, rfl⟩, Q0⟩, ?_⟩
 refine wT [(0, .s (mC p_disks)), (3, .b 3 0), (6, .b 6 0), (7, vi x4.2)] [(3, .box [vi p_j.Id, vi p_j.Ver, vi p_j.From, vi p_j.To, vi p_j.Have, vi p_j.Left]), (6, .box [vi x4.1.Id, vi x4.1.Ver, .s (mI x4.1.Data), .s (mU x4.1.Sums)])] Q4 J2 rfl ?_
 refine sq ?_
 refine bl ?_
 refine sg ?_
 refine wT [(0, .s (mC p_disks)), (3, .b 3 0), (6, .b 6 0), (7, vi x4.2), (32, vb (x4.2 != 0))] [(3, .box [vi p_j.Id, vi p_j.Ver, vi p_j.From, vi p_j.To, vi p_j.Have, vi p_j.Left]), (6, .box [vi x4.1.Id, vi x4.1.Ver, .s (mI x4.1.Data), .s (mU x4.1.Sums)])] Q5 J2 rfl ?_
 refine cn 32 (x4.2 != 0) rfl h (fun hb h => ?_) fun hb h => ?_
 ·refine sg ?_
  refine wE [(4, .s (mC p_disks)), (5, vi x4.2)] Q2 ?_
  refine rt ?_
  cases h
  exact (Fz.t (.cons Fz.s (.cons Fz.v .nil)))
 refine sg ?_
 refine ⟨_, rfl, _, rfl, ?_⟩
 refine wT [(0, .s (mC p_disks)), (3, .b 3 0), (6, .b 6 0), (37, vb (x4.1.Ver != p_j.Ver))] [(3, .box [vi p_j.Id, vi p_j.Ver, vi p_j.From, vi p_j.To, vi p_j.Have, vi p_j.Left]), (6, .box [vi x4.1.Id, vi x4.1.Ver, .s (mI x4.1.Data), .s (mU x4.1.Sums)])] Q4 J2 rfl ?_
 refine cn 37 (x4.1.Ver != p_j.Ver) rfl h (fun hb h => ?_) fun hb h => ?_
 ·refine sg ?_
  refine wE [(4, .s (mC p_disks)), (5, vi (250))] Q2 ?_
  refine rt ?_
  cases h
  exact (Fz.t (.cons Fz.s (.cons Fz.v .nil)))
 refine sk ?_
 refine sg ?_
 obtain ⟨x6, hx6, h⟩ := bindS h
 refine ⟨_, rfl, ?_⟩
 refine CallOk.gen (m := [(1000, 6)]) (n := []) (wg_scrubN7 hx6) (.cons (Ln.imm rfl) (.cons (Ln.imm rfl) (.cons (Ln.c (.nil) (.cons (Ln.b rfl) (.nil))) (.nil)))) ⟨⟨6, _, rfl, rfl, .box (.cons (Ln.imm rfl) (.cons (Ln.imm rfl) (.cons (Ln.imm rfl) (.cons (Ln.imm rfl) (.nil)))))⟩, Q0⟩ rfl rfl rfl ?_
 refine wE [(4, .s (mC x6.1)), (5, vi x6.2)] Q2 ?_
 refine rt ?_
 cases h
 exact (Fz.t (.cons Fz.s (.cons Fz.v .nil)))
theorem w_mend_Do [Off] {p_disks} {p_l} {r} (h : mend_Do p_disks p_l = some r) : Pure Tryz.prog 8 [(.s (mC p_disks)), (.s (mA p_l))] (.t [(.s (mC r.1)), (.s (mA r.2))]) := by
 refine po Tryz.tok 33 Tryz.func8 (by kernel_rfl) rfl rfl rfl ?_
 unfold mend_Do at h
 refine wE [(0, .s (mC p_disks)), (1, .s (mA p_l))] Q2 ?_
 refine sg ?_
 refine wE [(0, .s (mC p_disks)), (1, .s (mA p_l))] Q2 ?_
 refine sg ?_
 refine wE [(0, .s (mC p_disks)), (1, .s (mA p_l)), (6, .v (.slice none 0 0))] Q3 ?_
 obtain ⟨v1, hv1, h⟩ := bindS h
 refine Ok.seqw ⟨Cat.tab [(0, .s (mC v1.1)), (6, .o 29)], [(29, .own 47 6 (mA v1.2))]⟩ ?_ ?_
 ·refine sg ?_
  refine ⟨_, List.length_map _, fun _ => ?_⟩
  refine wE [(0, .s (mC p_disks)), (6, .v (.slice none 0 0)), (11, .s (mA p_l)), (12, vi (p_l.length : Int)), (13, vi (0))] Q5 ?_
  refine bl ?_
  refine Ok.loop (fun (s1 : (List api_Disk) × Int × (List api_Job)) => ⟨Cat.tab [(0, .s (mC s1.1)), (6, .o 29), (11, .s (mA p_l)), (12, vi (p_l.length : Int)), (13, vi s1.2.1)], [(29, .own 47 6 (mA s1.2.2))]⟩) (mend_Do_B1 p_l) (s0 := (p_disks, 0, [])) hv1 ((Wk.own0 (t := 6) (id := 29) (E := 47) (K := 6) rfl rfl).trans (wt Q5 ⟨⟨_, rfl, .refl _⟩, Q0⟩ rfl)) ?_
  intro s1 y1 hB1 hy1
  unfold mend_Do_B1 at hB1
  refine sg ?_
  refine wT [(0, .s (mC s1.1)), (6, .o 29), (11, .s (mA p_l)), (12, vi (p_l.length : Int)), (13, vi s1.2.1), (14, vb (decide (s1.2.1 < (p_l.length : Int))))] [(29, .own 47 6 (mA s1.2.2))] Q6 J1 rfl ?_
  refine sq ?_
  refine cn 14 (decide (s1.2.1 < (p_l.length : Int))) rfl hB1 (fun hb hB1 => ?_) fun hb hB1 => ?_
  ·refine sk ?_
   obtain ⟨v2, hv2, hB1⟩ := bindS hB1
   refine Ok.seqw ⟨Cat.tab [(0, .s (mC v2.1)), (6, .o 29), (11, .s (mA p_l)), (12, vi (p_l.length : Int)), (13, vi s1.2.1)], [(29, .own 47 6 (mA v2.2))]⟩ ?_ ?_
   ·refine bl ?_
    refine sg ?_
    obtain ⟨x1, hx1, hv2⟩ := bindS hv2
    refine ⟨_, idx_nat hx1, _, idx_row hx1, _, rfl, _, rfl, ?_⟩
    refine wT [(0, .s (mC s1.1)), (6, .o 29), (8, .b 8 0), (11, .s (mA p_l)), (12, vi (p_l.length : Int)), (13, vi s1.2.1)] [(29, .own 47 6 (mA s1.2.2)), (8, .box [vi x1.Id, vi x1.Ver, vi x1.From, vi x1.To, vi x1.Have, vi x1.Left])] Q6 J2 rfl ?_
    refine sg ?_
    obtain ⟨x2, hx2, hv2⟩ := bindS hv2
    refine ⟨_, rfl, ?_⟩
    refine CallOk.call (w_scrubN1 hx2) (LeL.refl _) ?_
    refine wT [(0, .s (mC s1.1)), (6, .o 29), (8, .b 8 0), (9, .s (mC x2.1)), (10, vi x2.2), (11, .s (mA p_l)), (12, vi (p_l.length : Int)), (13, vi s1.2.1)] [(29, .own 47 6 (mA s1.2.2)), (8, .box [vi x1.Id, vi x1.Ver, vi x1.From, vi x1.To, vi x1.Have, vi x1.Left])] Q8 J2 rfl ?_
    refine sg ?_
    refine wT [(0, .s (mC s1.1)), (6, .o 29), (8, .b 8 0), (9, .s (mC x2.1)), (11, .s (mA p_l)), (12, vi (p_l.length : Int)), (13, vi s1.2.1), (24, vb (x2.2 == 0))] [(29, .own 47 6 (mA s1.2.2)), (8, .box [vi x1.Id, vi x1.Ver, vi x1.From, vi x1.To, vi x1.Have, vi x1.Left])] Q8 J2 rfl ?_
    refine cn 24 (x2.2 == 0) rfl hv2 (fun hb hv2 => ?_) fun hb hv2 => ?_
    ·refine rg ?_
     obtain ⟨hc1, hv2⟩ := chk_some hv2
     refine ⟨_, rfl, Or.inl ⟨rowsLen_map (f := c_api_Job) (n := 6) (fun _ => rfl) ([x1]), app_b2 (f := c_api_Job) (l := s1.2.2) (l' := [x1]) hc1, _, (List.map_append (f := c_api_Job) (l₁ := s1.2.2) (l₂ := [x1])).symm, ?_⟩⟩
     cases hv2
     exact wt Q5 J1 rfl
    refine sk ?_
    cases hv2
    exact wt Q5 J1 rfl
   refine rg ?_
   obtain ⟨hc2, hB1⟩ := chk_some hB1
   refine (Or.inl ⟨hc2, ?_⟩)
   exact ⟨_, sj hB1, wt Q5 J1 rfl⟩
  refine xt ?_
  have hB1 := out_ret hB1 hy1
  cases hB1
  exact wt Q2 J1 rfl
 refine sg ?_
 refine wT [(4, .s (mC v1.1)), (5, .o 29)] [(29, .own 47 6 (mA v1.2))] Q2 J1 rfl ?_
 refine rt ?_
 cases h
 exact (Fz.t (.cons Fz.s (.cons (Fz.o rfl) .nil)))
theorem w_ref27N10 {p_disks} {p_s} {r} (h : ref27_there p_disks p_s = some r) : Pure Tryz.prog 57 [(.s (mC p_disks)), (vi p_s)] (vb r) := by
 refine po Tryz.tok 13 Tryz.func57 (by kernel_rfl) rfl rfl rfl ?_
 unfold ref27_there at h
 refine wE [(0, .s (mC p_disks)), (1, vi p_s)] Q2 ?_
 refine sg ?_
 refine wE [(0, .s (mC p_disks)), (1, vi p_s)] Q2 ?_
 obtain ⟨v1, hv1, h⟩ := bindS h
 refine Ok.seqw ⟨Cat.tab [(4, vb v1)], []⟩ ?_ ?_
 ·refine rg ?_
  obtain ⟨c1, hg1, hv1⟩ := bindS hv1
  refine Br.ite hg1 (fun hb hg1 => ?_) fun hb hg1 => ?_
  ·refine ⟨_, List.length_map _, fun _ => ?_⟩
   cases hg1
   cases hv1
   exact wt Q1 Q0 rfl
  cases hg1
  cases hv1
  exact wt Q1 Q0 rfl
 refine rt ?_
 cases h
 exact Fz.v
theorem w_ref04N2 {p_d} {p_at} {r} (h : ref04_Read p_d p_at = some r) : Pure Tryz.prog 78 [(.a [(.s (mB p_d.Synced)), (.s (mB p_d.Loose)), (vb p_d.Down)]), (vi p_at)] (.t [(.s (mI r.1)), (vi r.2)]) := by
 refine po Tryz.tok 59 Tryz.func78 (by kernel_rfl) rfl rfl rfl ?_
 unfold ref04_Read at h
 refine wE [(0, .a [.s (mB p_d.Synced), .s (mB p_d.Loose), vb p_d.Down]), (1, vi p_at)] Q2 ?_
 refine sg ?_
 refine wT [(1, vi p_at), (2, .b 2 0)] [(2, .box [.s (mB p_d.Synced), .s (mB p_d.Loose), vb p_d.Down])] Q2 J1 rfl ?_
 refine sq ?_
 refine sg ?_
 refine ⟨_, rfl, ?_⟩
 refine wT [(1, vi p_at), (2, .b 2 0), (9, vb p_d.Down)] [(2, .box [.s (mB p_d.Synced), .s (mB p_d.Loose), vb p_d.Down])] Q3 J1 rfl ?_
 refine cn 9 (p_d.Down) rfl h (fun hb h => ?_) fun hb h => ?_
 ·refine sg ?_
  refine wE [(4, .v (.slice none 0 0)), (5, vi (40))] Q2 ?_
  refine rt ?_
  cases h
  exact (Fz.t (.cons Fz.nil (.cons Fz.v .nil)))
 refine sk ?_
 refine sq ?_
 obtain ⟨v1, hv1, h⟩ := bindS h
 refine Ok.seqw ⟨Cat.tab [(1, vi p_at), (2, .b 2 0), (15, vb v1)], [(2, .box [.s (mB p_d.Synced), .s (mB p_d.Loose), vb p_d.Down])]⟩ ?_ ?_
 ·refine rg ?_
  obtain ⟨c1, hg1, hv1⟩ := bindS hv1
  refine Br.itf hg1 (fun hb hg1 => ?_) fun hb hg1 => ?_
  ·cases hg1
   cases hv1
   exact wt Q3 J1 rfl
  cases hg1
  cases hv1
  exact wt Q3 J1 rfl
 refine cn 15 (v1) rfl h (fun hb h => ?_) fun hb h => ?_
 ·refine sg ?_
  refine wE [(4, .v (.slice none 0 0)), (5, vi (1))] Q2 ?_
  refine rt ?_
  cases h
  exact (Fz.t (.cons Fz.nil (.cons Fz.v .nil)))
 refine sk ?_
 refine Ok.seqj (fun v2 => ⟨Cat.tab [(1, vi p_at), (2, .b 2 0)], [(2, .box [.s (mB p_d.Synced), .s (mB p_d.Loose), vb p_d.Down])]⟩) (fun v2 => ref04N3 p_d p_at v2 = some r) ?_ ?_
 ·refine sg ?_
  obtain ⟨hc1, h⟩ := chk_some h
  refine ⟨_, rfl, _, List.length_map _, fun _ => (Or.inl ⟨hc1, ?_⟩)⟩
  refine wT [(1, vi p_at), (2, .b 2 0), (6, vi ((p_d.Loose.length : Int) - 1))] [(2, .box [.s (mB p_d.Synced), .s (mB p_d.Loose), vb p_d.Down])] Q3 J1 rfl ?_
  refine bl ?_
  refine Ok.loop (fun (s1 : Int) => ⟨Cat.tab [(1, vi p_at), (2, .b 2 0), (6, vi s1)], [(2, .box [.s (mB p_d.Synced), .s (mB p_d.Loose), vb p_d.Down])]⟩) (ref04N1 p_d p_at) (s0 := (p_d.Loose.length : Int) - 1) h (wt Q3 ⟨⟨_, rfl, .refl _⟩, Q0⟩ rfl) ?_
  intro s1 y1 hB1 hy1
  unfold ref04N1 at hB1
  refine sq ?_
  refine sg ?_
  refine wT [(1, vi p_at), (2, .b 2 0), (6, vi s1), (21, vb (decide (s1 ≥ 0)))] [(2, .box [.s (mB p_d.Synced), .s (mB p_d.Loose), vb p_d.Down])] Q4 J1 rfl ?_
  refine cn 21 (decide (s1 ≥ 0)) rfl hB1 (fun hb hB1 => ?_) fun hb hB1 => ?_
  ·refine sk ?_
   refine sq ?_
   refine bl ?_
   refine sg ?_
   obtain ⟨x1, hx1, hB1⟩ := bindS hB1
   refine ⟨_, rfl, _, idx_nat hx1, _, idx_row hx1, _, rfl, ?_⟩
   refine wT [(1, vi p_at), (2, .b 2 0), (6, vi s1), (31, vb (x1.At == p_at))] [(2, .box [.s (mB p_d.Synced), .s (mB p_d.Loose), vb p_d.Down])] Q4 J1 rfl ?_
   refine cn 31 (x1.At == p_at) rfl hB1 (fun hb hB1 => ?_) fun hb hB1 => ?_
   ·refine sg ?_
    obtain ⟨x2, hx2, hB1⟩ := bindS hB1
    refine ⟨_, rfl, _, idx_nat hx2, _, idx_row hx2, _, rfl, ?_⟩
    refine wE [(4, .s (mI x2.Data)), (5, vi (0))] Q2 ?_
    refine rt ?_
    have hB1 := out_ret hB1 hy1
    cases hB1
    exact (Fz.t (.cons Fz.s (.cons Fz.v .nil)))
   refine sk ?_
   refine rg ?_
   obtain ⟨hc2, hB1⟩ := chk_some hB1
   refine (Or.inl ⟨hc2, ?_⟩)
   exact ⟨_, sj hB1, wt Q3 J1 rfl⟩
  refine xt ?_
  have hB1 := out_ret hB1 hy1
  exact ⟨_, hB1, wt Q2 ⟨⟨_, rfl, .refl _⟩, Q0⟩ rfl⟩
 intro v2 h
 unfold ref04N3 at h
 refine Ok.seqj (fun v3 => ⟨Cat.tab [], []⟩) (fun v3 => ref04N4 v3 = some r) ?_ ?_
 ·refine sg ?_
  refine wT [(1, vi p_at), (2, .b 2 0), (7, vi (0))] [(2, .box [.s (mB p_d.Synced), .s (mB p_d.Loose), vb p_d.Down])] Q3 J1 rfl ?_
  refine bl ?_
  refine Ok.loop (fun (s2 : Int) => ⟨Cat.tab [(1, vi p_at), (2, .b 2 0), (7, vi s2)], [(2, .box [.s (mB p_d.Synced), .s (mB p_d.Loose), vb p_d.Down])]⟩) (ref04N2 p_d p_at) (s0 := 0) h (wt Q3 ⟨⟨_, rfl, .refl _⟩, Q0⟩ rfl) ?_
  intro s2 y2 hB2 hy2
  unfold ref04N2 at hB2
  refine sq ?_
  refine sg ?_
  refine ⟨_, rfl, _, List.length_map _, fun _ => ?_⟩
  refine wT [(1, vi p_at), (2, .b 2 0), (7, vi s2), (42, vb (decide (s2 < (p_d.Synced.length : Int))))] [(2, .box [.s (mB p_d.Synced), .s (mB p_d.Loose), vb p_d.Down])] Q4 J1 rfl ?_
  refine cn 42 (decide (s2 < (p_d.Synced.length : Int))) rfl hB2 (fun hb hB2 => ?_) fun hb hB2 => ?_
  ·refine sk ?_
   refine sq ?_
   refine bl ?_
   refine sg ?_
   obtain ⟨x3, hx3, hB2⟩ := bindS hB2
   refine ⟨_, rfl, _, idx_nat hx3, _, idx_row hx3, _, rfl, ?_⟩
   refine wT [(1, vi p_at), (2, .b 2 0), (7, vi s2), (52, vb (x3.At == p_at))] [(2, .box [.s (mB p_d.Synced), .s (mB p_d.Loose), vb p_d.Down])] Q4 J1 rfl ?_
   refine cn 52 (x3.At == p_at) rfl hB2 (fun hb hB2 => ?_) fun hb hB2 => ?_
   ·refine sg ?_
    obtain ⟨x4, hx4, hB2⟩ := bindS hB2
    refine ⟨_, rfl, _, idx_nat hx4, _, idx_row hx4, _, rfl, ?_⟩
    refine wE [(4, .s (mI x4.Data)), (5, vi (0))] Q2 ?_
    refine rt ?_
    have hB2 := out_ret hB2 hy2
    cases hB2
    exact (Fz.t (.cons Fz.s (.cons Fz.v .nil)))
   refine sk ?_
   refine rg ?_
   obtain ⟨hc3, hB2⟩ := chk_some hB2
   refine (Or.inl ⟨hc3, ?_⟩)
   exact ⟨_, sj hB2, wt Q3 J1 rfl⟩
  refine xt ?_
  have hB2 := out_ret hB2 hy2
  exact ⟨_, hB2, wt Q0 Q0 rfl⟩
 intro v3 h
 unfold ref04N4 at h
 refine sg ?_
 refine wE [(4, .v (.slice none 0 0)), (5, vi (41))] Q2 ?_
 refine rt ?_
 cases h
 exact (Fz.t (.cons Fz.nil (.cons Fz.v .nil)))
theorem w_ref01_zag {p_u} {r} (h : ref01_zag p_u = some r) : Pure Tryz.prog 157 [(.v (.int .u64 p_u))] (vi r) := by
 refine po Tryz.tok 14 Tryz.func157 (by kernel_rfl) rfl rfl rfl ?_
 unfold ref01_zag at h
 refine wE [(0, .v (.int .u64 p_u))] Q1 ?_
 refine sg ?_
 refine wE [(0, .v (.int .u64 p_u))] Q1 ?_
 refine sq ?_
 refine sg ?_
 refine ⟨(by decide), _, rfl, ?_⟩
 refine wE [(0, .v (.int .u64 p_u)), (5, vb ((Int.tmod p_u (2)) == 1))] Q2 ?_
 refine cn 5 ((Int.tmod p_u (2)) == 1) rfl h (fun hb h => ?_) fun hb h => ?_
 ·refine sg ?_
  obtain ⟨hc1, h⟩ := chk_some h
  obtain ⟨hc2, h⟩ := chk_some h
  refine ⟨(by decide), _, rfl, _, rfl, _, InI64.wrap hc1, (Or.inl ⟨hc2, ?_⟩)⟩
  refine wE [(2, vi ((0 - (IntKind.i64.wrap (quoK .u64 p_u (2)))) - 1))] Q1 ?_
  refine rt ?_
  cases h
  exact Fz.v
 refine sk ?_
 refine sg ?_
 refine ⟨(by decide), _, rfl, _, rfl, ?_⟩
 refine wE [(2, vi (IntKind.i64.wrap (quoK .u64 p_u (2))))] Q1 ?_
 refine rt ?_
 cases h
 exact Fz.v
theorem w_ref01N2 {p_b} {r} (h : ref01N5 p_b = some r) : Pure Tryz.prog 123 [(.s (mI p_b))] (.t [(vi r.1), (.s (mI r.2.1)), (vi r.2.2)]) := by
 refine po Tryz.tok 61 Tryz.func123 (by kernel_rfl) rfl rfl rfl ?_
 unfold ref01N5 at h
 refine wE [(0, .s (mI p_b))] Q1 ?_
 refine sg ?_
 refine wE [(0, .s (mI p_b))] Q1 ?_
 refine sg ?_
 refine wE [(0, .s (mI p_b)), (5, .v (.int .u64 (0)))] Q2 ?_
 refine sg ?_
 refine wE [(0, .s (mI p_b)), (5, .v (.int .u64 (0))), (6, .v (.int .u64 (1)))] Q3 ?_
 refine Ok.seqj (fun v1 => ⟨Cat.tab [], []⟩) (fun v1 => ref01N7 v1 = some r) ?_ ?_
 ·refine sg ?_
  refine wE [(0, .s (mI p_b)), (5, .v (.int .u64 (0))), (6, .v (.int .u64 (1))), (7, vi (0))] Q4 ?_
  refine bl ?_
  refine Ok.loop (fun (s1 : Int × Int × Int) => ⟨Cat.tab [(0, .s (mI p_b)), (5, .v (.int .u64 s1.1)), (6, .v (.int .u64 s1.2.1)), (7, vi s1.2.2)], []⟩) (ref01N6 p_b) (s0 := (0, 1, 0)) h (wt Q4 Q0 rfl) ?_
  intro s1 y1 hB1 hy1
  unfold ref01N6 at hB1
  refine sq ?_
  obtain ⟨v2, hv2, hB1⟩ := bindS hB1
  refine Ok.seqw ⟨Cat.tab [(0, .s (mI p_b)), (5, .v (.int .u64 s1.1)), (6, .v (.int .u64 s1.2.1)), (7, vi s1.2.2), (16, vb v2)], []⟩ ?_ ?_
  ·refine rg ?_
   refine ⟨_, List.length_map _, fun _ => ?_⟩
   obtain ⟨c1, hg1, hv2⟩ := bindS hv2
   refine Br.ite hg1 (fun hb hg1 => ?_) fun hb hg1 => ?_
   ·cases hg1
    cases hv2
    exact wt Q5 Q0 rfl
   cases hg1
   cases hv2
   exact wt Q5 Q0 rfl
  refine cn 16 (v2) rfl hB1 (fun hb hB1 => ?_) fun hb hB1 => ?_
  ·refine sk ?_
   refine sq ?_
   refine bl ?_
   refine sg ?_
   obtain ⟨x1, hx1, hB1⟩ := bindS hB1
   refine ⟨_, idx_nat hx1, _, idx_row hx1, _, rfl, (by decide), _, b8_rem _ _, _, wrap_of_u8 (k := .u64) (by decide) _, ?_⟩
   refine wE [(0, .s (mI p_b)), (5, .v (.int .u64 s1.1)), (6, .v (.int .u64 s1.2.1)), (7, vi s1.2.2), (8, .v (.int .u64 ((toU8 (Int.tmod (x1.toNat : Int) (128))).toNat : Int)))] Q5 ?_
   refine sq ?_
   obtain ⟨v3, hv3, hB1⟩ := bindS hB1
   refine Ok.seqw ⟨Cat.tab [(0, .s (mI p_b)), (5, .v (.int .u64 s1.1)), (6, .v (.int .u64 s1.2.1)), (7, vi s1.2.2), (8, .v (.int .u64 ((toU8 (Int.tmod (x1.toNat : Int) (128))).toNat : Int))), (33, vb v3)], []⟩ ?_ ?_
   ·refine rg ?_
    obtain ⟨c2, hg2, hv3⟩ := bindS hv3
    refine Br.ite hg2 (fun hb hg2 => ?_) fun hb hg2 => ?_
    ·obtain ⟨x2, hx2, hg2⟩ := bindS hg2
     refine ⟨_, idx_nat hx2, _, idx_row hx2, _, rfl, ?_⟩
     cases hg2
     cases hv3
     exact wt Q6 Q0 rfl
    cases hg2
    cases hv3
    exact wt Q6 Q0 rfl
   refine cn 33 (v3) rfl hB1 (fun hb hB1 => ?_) fun hb hB1 => ?_
   ·refine sg ?_
    refine wE [(2, vi (0)), (3, .v (.slice none 0 0)), (4, vi (11))] Q3 ?_
    refine rt ?_
    have hB1 := out_ret hB1 hy1
    cases hB1
    exact (Fz.t (.cons Fz.v (.cons Fz.nil (.cons Fz.v .nil))))
   refine sk ?_
   refine sg ?_
   refine ⟨_, rfl, _, rfl, ?_⟩
   refine wE [(0, .s (mI p_b)), (5, .v (.int .u64 (IntKind.u64.wrap (s1.1 + (IntKind.u64.wrap (s1.2.1 * ((toU8 (Int.tmod (x1.toNat : Int) (128))).toNat : Int))))))), (6, .v (.int .u64 s1.2.1)), (7, vi s1.2.2)] Q4 ?_
   refine sg ?_
   refine ⟨_, rfl, ?_⟩
   refine wE [(0, .s (mI p_b)), (5, .v (.int .u64 (IntKind.u64.wrap (s1.1 + (IntKind.u64.wrap (s1.2.1 * ((toU8 (Int.tmod (x1.toNat : Int) (128))).toNat : Int))))))), (6, .v (.int .u64 (IntKind.u64.wrap (s1.2.1 * 128)))), (7, vi s1.2.2)] Q4 ?_
   refine sg ?_
   obtain ⟨x3, hx3, hB1⟩ := bindS hB1
   refine ⟨_, idx_nat hx3, _, idx_row hx3, _, rfl, ?_⟩
   refine wE [(0, .s (mI p_b)), (5, .v (.int .u64 (IntKind.u64.wrap (s1.1 + (IntKind.u64.wrap (s1.2.1 * ((toU8 (Int.tmod (x1.toNat : Int) (128))).toNat : Int))))))), (6, .v (.int .u64 (IntKind.u64.wrap (s1.2.1 * 128)))), (7, vi s1.2.2), (45, vb (decide ((x3.toNat : Int) < 128)))] Q5 ?_
   refine cn 45 (decide ((x3.toNat : Int) < 128)) rfl hB1 (fun hb hB1 => ?_) fun hb hB1 => ?_
   ·refine sq ?_
    obtain ⟨v4, hv4, hB1⟩ := bindS hB1
    refine Ok.seqw ⟨Cat.tab [(0, .s (mI p_b)), (5, .v (.int .u64 (IntKind.u64.wrap (s1.1 + (IntKind.u64.wrap (s1.2.1 * ((toU8 (Int.tmod (x1.toNat : Int) (128))).toNat : Int))))))), (7, vi s1.2.2), (54, vb v4)], []⟩ ?_ ?_
    ·refine rg ?_
     obtain ⟨c3, hg3, hv4⟩ := bindS hv4
     refine Br.ite hg3 (fun hb hg3 => ?_) fun hb hg3 => ?_
     ·obtain ⟨x4, hx4, hg3⟩ := bindS hg3
      refine ⟨_, idx_nat hx4, _, idx_row hx4, _, rfl, ?_⟩
      cases hg3
      cases hv4
      exact wt Q4 Q0 rfl
     cases hg3
     cases hv4
     exact wt Q4 Q0 rfl
    refine cn 54 (v4) rfl hB1 (fun hb hB1 => ?_) fun hb hB1 => ?_
    ·refine sg ?_
     refine wE [(2, vi (0)), (3, .v (.slice none 0 0)), (4, vi (11))] Q3 ?_
     refine rt ?_
     have hB1 := out_ret hB1 hy1
     cases hB1
     exact (Fz.t (.cons Fz.v (.cons Fz.nil (.cons Fz.v .nil))))
    refine sk ?_
    refine sq ?_
    refine Ok.draw (m := 9) (MD := ⟨[]⟩) (CH := ⟨[]⟩) Tryz.tok Tryz.mixed (by kernel_rfl) ?_
    obtain ⟨x5, hx5, hB1⟩ := bindS hB1
    obtain ⟨hc1, hB1⟩ := chk_some hB1
    obtain ⟨hc2, hB1⟩ := chk_some hB1
    refine ⟨_, rfl, _, ⟨_, .of_pure (w_ref01_zag hx5) (LeL.refl _), rfl⟩, _, rfl, _, rfl, _, Or.inl ⟨hc1, rfl⟩, _, ⟨_, sl_nat hc2.1, sl_len hc2, Nat.le_refl _, rowsK (f := cU8) (K := 1) (fun _ => rfl) p_b, _, sl_drop _ _ _, rfl⟩, _, rfl, _, rfl, _, rfl, Q0, ?_⟩
    refine wE [(2, vi x5), (3, .s (mI (p_b.drop (s1.2.2 + 1).toNat))), (4, vi (0))] Q3 ?_
    refine rt ?_
    have hB1 := out_ret hB1 hy1
    cases hB1
    exact (Fz.t (.cons Fz.v (.cons Fz.s (.cons Fz.v .nil))))
   refine sk ?_
   refine rg ?_
   obtain ⟨hc3, hB1⟩ := chk_some hB1
   refine (Or.inl ⟨hc3, ?_⟩)
   exact ⟨_, sj hB1, wt Q4 Q0 rfl⟩
  refine xt ?_
  have hB1 := out_ret hB1 hy1
  exact ⟨_, hB1, wt Q0 Q0 rfl⟩
 intro v1 h
 unfold ref01N7 at h
 refine sg ?_
 refine wE [(2, vi (0)), (3, .v (.slice none 0 0)), (4, vi (10))] Q3 ?_
 refine rt ?_
 cases h
 exact (Fz.t (.cons Fz.v (.cons Fz.nil (.cons Fz.v .nil))))
theorem w_ref01N5 {p_b} {r} (h : ref01_count p_b = some r) : Pure Tryz.prog 158 [(.s (mI p_b))] (.t [(vi r.1), (.s (mI r.2.1)), (vi r.2.2)]) := by
 refine po Tryz.tok 25 Tryz.func158 (by kernel_rfl) rfl rfl rfl ?_
 unfold ref01_count at h
 refine wE [(0, .s (mI p_b))] Q1 ?_
 refine sg ?_
 refine wE [(0, .s (mI p_b))] Q1 ?_
 refine sg ?_
 obtain ⟨x1, hx1, h⟩ := bindS h
 refine CallOk.call (w_ref01N2 hx1) (LeL.refl _) ?_
 refine wE [(5, vi x1.1), (6, .s (mI x1.2.1)), (7, vi x1.2.2)] Q3 ?_
 refine sq ?_
 refine sg ?_
 refine wE [(5, vi x1.1), (6, .s (mI x1.2.1)), (7, vi x1.2.2), (15, vb (x1.2.2 != 0))] Q4 ?_
 refine cn 15 (x1.2.2 != 0) rfl h (fun hb h => ?_) fun hb h => ?_
 ·refine sg ?_
  refine wE [(2, vi (0)), (3, .v (.slice none 0 0)), (4, vi x1.2.2)] Q3 ?_
  refine rt ?_
  cases h
  exact (Fz.t (.cons Fz.v (.cons Fz.nil (.cons Fz.v .nil))))
 refine sk ?_
 refine sq ?_
 refine sg ?_
 refine wE [(5, vi x1.1), (6, .s (mI x1.2.1)), (18, vb (decide (x1.1 < 0)))] Q3 ?_
 refine cn 18 (decide (x1.1 < 0)) rfl h (fun hb h => ?_) fun hb h => ?_
 ·refine sg ?_
  refine wE [(2, vi (0)), (3, .v (.slice none 0 0)), (4, vi (11))] Q3 ?_
  refine rt ?_
  cases h
  exact (Fz.t (.cons Fz.v (.cons Fz.nil (.cons Fz.v .nil))))
 refine sk ?_
 refine sq ?_
 refine sg ?_
 refine ⟨_, List.length_map _, fun _ => ?_⟩
 refine wE [(5, vi x1.1), (6, .s (mI x1.2.1)), (22, vb (decide (x1.1 > (x1.2.1.length : Int))))] Q3 ?_
 refine cn 22 (decide (x1.1 > (x1.2.1.length : Int))) rfl h (fun hb h => ?_) fun hb h => ?_
 ·refine sg ?_
  refine wE [(2, vi (0)), (3, .v (.slice none 0 0)), (4, vi (10))] Q3 ?_
  refine rt ?_
  cases h
  exact (Fz.t (.cons Fz.v (.cons Fz.nil (.cons Fz.v .nil))))
 refine sk ?_
 refine sg ?_
 refine wE [(2, vi x1.1), (3, .s (mI x1.2.1)), (4, vi (0))] Q3 ?_
 refine rt ?_
 cases h
 exact (Fz.t (.cons Fz.v (.cons Fz.s (.cons Fz.v .nil))))
theorem w_ref01N4 {p_b} {r} (h : ref01N13 p_b = some r) : Pure Tryz.prog 124 [(.s (mI p_b))] (.t [(vs r.1), (.s (mI r.2.1)), (vi r.2.2)]) := by
 refine po Tryz.tok 24 Tryz.func124 (by kernel_rfl) rfl rfl rfl ?_
 unfold ref01N13 at h
 refine wE [(0, .s (mI p_b))] Q1 ?_
 refine sg ?_
 refine wE [(0, .s (mI p_b))] Q1 ?_
 refine sg ?_
 obtain ⟨x1, hx1, h⟩ := bindS h
 refine CallOk.call (w_ref01N5 hx1) (LeL.refl _) ?_
 refine wE [(5, vi x1.1), (6, .s (mI x1.2.1)), (7, vi x1.2.2)] Q3 ?_
 refine sq ?_
 refine sg ?_
 refine wE [(5, vi x1.1), (6, .s (mI x1.2.1)), (7, vi x1.2.2), (15, vb (x1.2.2 != 0))] Q4 ?_
 refine cn 15 (x1.2.2 != 0) rfl h (fun hb h => ?_) fun hb h => ?_
 ·refine sg ?_
  refine wE [(2, vs ([])), (3, .v (.slice none 0 0)), (4, vi x1.2.2)] Q3 ?_
  refine rt ?_
  cases h
  exact (Fz.t (.cons Fz.v (.cons Fz.nil (.cons Fz.v .nil))))
 refine sk ?_
 refine sq ?_
 refine Ok.draw (m := 10) (MD := ⟨[]⟩) (CH := ⟨[]⟩) Tryz.tok Tryz.mixed (by kernel_rfl) ?_
 obtain ⟨hc1, h⟩ := chk_some h
 obtain ⟨hc2, h⟩ := chk_some h
 refine ⟨_, rfl, _, rfl, _, ⟨_, sl_nat hc1.1, Nat.zero_le _, sl_len hc1, rowsK (f := cU8) (K := 1) (fun _ => rfl) x1.2.1, _, sl_take _ _ _, rfl⟩, _, ⟨_, rfl, rfl⟩, _, rfl, _, rfl, _, ⟨_, sl_nat hc2.1, sl_len hc2, Nat.le_refl _, rowsK (f := cU8) (K := 1) (fun _ => rfl) x1.2.1, _, sl_drop _ _ _, rfl⟩, _, rfl, _, rfl, _, rfl, Q0, ?_⟩
 refine wE [(2, vs (x1.2.1.take x1.1.toNat)), (3, .s (mI (x1.2.1.drop x1.1.toNat))), (4, vi (0))] Q3 ?_
 refine rt ?_
 cases h
 exact (Fz.t (.cons Fz.v (.cons Fz.s (.cons Fz.v .nil))))
theorem w_ref01N3 {p_b} {r} (h : ref01N9 p_b = some r) : Pure Tryz.prog 125 [(.s (mI p_b))] (.t [(.s (mU r.1)), (.s (mI r.2.1)), (vi r.2.2)]) := by
 refine po Tryz.tok 44 Tryz.func125 (by kernel_rfl) rfl rfl rfl ?_
 unfold ref01N9 at h
 refine wE [(0, .s (mI p_b))] Q1 ?_
 refine sg ?_
 refine wE [(0, .s (mI p_b))] Q1 ?_
 refine sg ?_
 refine Or.inr ?_
 refine wT [(0, .s (mI p_b)), (5, .o 13)] [(13, .own 3 1 (mU ([] : List Int)))] Q2 J1 rfl ?_
 refine sg ?_
 obtain ⟨x1, hx1, h⟩ := bindS h
 refine CallOk.call (w_ref01N5 hx1) (LeL.refl _) ?_
 refine wT [(5, .o 13), (6, vi x1.1), (7, .s (mI x1.2.1)), (8, vi x1.2.2)] [(13, .own 3 1 (mU ([] : List Int)))] Q4 J1 rfl ?_
 refine sq ?_
 refine sg ?_
 refine wT [(5, .o 13), (6, vi x1.1), (7, .s (mI x1.2.1)), (8, vi x1.2.2), (21, vb (x1.2.2 != 0))] [(13, .own 3 1 (mU ([] : List Int)))] Q5 J1 rfl ?_
 refine cn 21 (x1.2.2 != 0) rfl h (fun hb h => ?_) fun hb h => ?_
 ·refine sg ?_
  refine wE [(2, .v (.slice none 0 0)), (3, .v (.slice none 0 0)), (4, vi x1.2.2)] Q3 ?_
  refine rt ?_
  cases h
  exact (Fz.t (.cons Fz.nil (.cons Fz.nil (.cons Fz.v .nil))))
 refine sk ?_
 refine Ok.seqj (fun v1 => ⟨Cat.tab [(5, .o 13), (7, .s (mI v1.1))], [(13, .own 3 1 (mU v1.2))]⟩) (fun v1 => ref01N11 v1 = some r) ?_ ?_
 ·refine sg ?_
  refine wT [(5, .o 13), (6, vi x1.1), (7, .s (mI x1.2.1)), (9, vi (0))] [(13, .own 3 1 (mU ([] : List Int)))] Q4 J1 rfl ?_
  refine bl ?_
  refine Ok.loop (fun (s1 : (List UInt8) × Int × (List Int)) => ⟨Cat.tab [(5, .o 13), (6, vi x1.1), (7, .s (mI s1.1)), (9, vi s1.2.1)], [(13, .own 3 1 (mU s1.2.2))]⟩) (ref01N10 x1) (s0 := (x1.2.1, 0, ([] : List Int))) h (wt Q4 ⟨⟨_, rfl, .refl _⟩, Q0⟩ rfl) ?_
  intro s1 y1 hB1 hy1
  unfold ref01N10 at hB1
  refine sq ?_
  refine sg ?_
  refine wT [(5, .o 13), (6, vi x1.1), (7, .s (mI s1.1)), (9, vi s1.2.1), (25, vb (decide (s1.2.1 < x1.1)))] [(13, .own 3 1 (mU s1.2.2))] Q5 J1 rfl ?_
  refine cn 25 (decide (s1.2.1 < x1.1)) rfl hB1 (fun hb hB1 => ?_) fun hb hB1 => ?_
  ·refine sk ?_
   refine sq ?_
   refine bl ?_
   refine sg ?_
   obtain ⟨x2, hx2, hB1⟩ := bindS hB1
   refine CallOk.call (w_ref01N2 hx2) (LeL.refl _) ?_
   refine wT [(5, .o 13), (6, vi x1.1), (9, vi s1.2.1), (10, vi x2.1), (11, .s (mI x2.2.1)), (12, vi x2.2.2)] [(13, .own 3 1 (mU s1.2.2))] Q6 J1 rfl ?_
   refine sq ?_
   refine sg ?_
   refine wT [(5, .o 13), (6, vi x1.1), (9, vi s1.2.1), (10, vi x2.1), (11, .s (mI x2.2.1)), (12, vi x2.2.2), (35, vb (x2.2.2 != 0))] [(13, .own 3 1 (mU s1.2.2))] Q7 J1 rfl ?_
   refine cn 35 (x2.2.2 != 0) rfl hB1 (fun hb hB1 => ?_) fun hb hB1 => ?_
   ·refine sg ?_
    refine wE [(2, .v (.slice none 0 0)), (3, .v (.slice none 0 0)), (4, vi x2.2.2)] Q3 ?_
    refine rt ?_
    have hB1 := out_ret hB1 hy1
    cases hB1
    exact (Fz.t (.cons Fz.nil (.cons Fz.nil (.cons Fz.v .nil))))
   refine sk ?_
   refine sg ?_
   obtain ⟨hc1, hB1⟩ := chk_some hB1
   refine Or.inl ⟨rowsLen_map (f := Go.Cat.encI) (n := 1) (fun _ => rfl) ([x2.1]), app_b2 (f := Go.Cat.encI) (l := s1.2.2) (l' := [x2.1]) hc1, _, (List.map_append (f := Go.Cat.encI) (l₁ := s1.2.2) (l₂ := [x2.1])).symm, ?_⟩
   refine wT [(5, .o 13), (6, vi x1.1), (9, vi s1.2.1), (11, .s (mI x2.2.1))] [(13, .own 3 1 (mU (s1.2.2 ++ [x2.1])))] Q4 J1 rfl ?_
   refine rg ?_
   refine wT [(5, .o 13), (6, vi x1.1), (7, .s (mI x2.2.1)), (9, vi s1.2.1)] [(13, .own 3 1 (mU (s1.2.2 ++ [x2.1])))] Q4 J1 rfl ?_
   refine rg ?_
   obtain ⟨hc2, hB1⟩ := chk_some hB1
   refine (Or.inl ⟨hc2, ?_⟩)
   exact ⟨_, sj hB1, wt Q4 J1 rfl⟩
  refine xt ?_
  have hB1 := out_ret hB1 hy1
  exact ⟨_, hB1, wt Q2 ⟨⟨_, rfl, .refl _⟩, Q0⟩ rfl⟩
 intro v1 h
 unfold ref01N11 at h
 refine sg ?_
 refine wT [(2, .o 13), (3, .s (mI v1.1)), (4, vi (0))] [(13, .own 3 1 (mU v1.2))] Q3 J1 rfl ?_
 refine rt ?_
 cases h
 exact (Fz.t (.cons (Fz.o rfl) (.cons Fz.s (.cons Fz.v .nil))))
theorem w_ref25N4 {p_b} {r} (h : ref25N5 p_b = some r) : Pure Tryz.prog 79 [(.s (mI p_b))] (.t [(.a [(vi r.1.Id), (vi r.1.Ver), (.s (mI r.1.Data)), (.s (mU r.1.Sums))]), (vb r.2)]) := by
 refine po Tryz.tok 63 Tryz.func79 (by kernel_rfl) rfl rfl rfl ?_
 unfold ref25N5 at h
 refine wE [(0, .s (mI p_b))] Q1 ?_
 refine sg ?_
 refine wT [(0, .s (mI p_b)), (2, .b 2 0)] [(2, .box [vi (0), vi (0), .v (.slice none 0 0), .v (.slice none 0 0)])] Q2 J1 rfl ?_
 refine sg ?_
 obtain ⟨x1, hx1, h⟩ := bindS h
 refine CallOk.call (w_ref01N2 hx1) (LeL.refl _) ?_
 refine wT [(2, .b 2 0), (4, vi x1.1), (5, .s (mI x1.2.1)), (6, vi x1.2.2)] [(2, .box [vi (0), vi (0), .v (.slice none 0 0), .v (.slice none 0 0)])] Q4 J1 rfl ?_
 refine sq ?_
 refine sg ?_
 refine wT [(2, .b 2 0), (4, vi x1.1), (5, .s (mI x1.2.1)), (23, vb (x1.2.2 != 0))] [(2, .box [vi (0), vi (0), .v (.slice none 0 0), .v (.slice none 0 0)])] Q4 J1 rfl ?_
 refine cn 23 (x1.2.2 != 0) rfl h (fun hb h => ?_) fun hb h => ?_
 ·refine sg ?_
  refine ⟨_, rfl, ?_⟩
  refine wT [(2, .b 2 0), (3, vb false)] [(2, .box [vi (0), vi (0), .v (.slice none 0 0), .v (.slice none 0 0)])] Q2 J1 rfl ?_
  refine rt ?_
  cases h
  exact ⟨_, rfl, (Fz.t (.cons (Fz.a (.cons Fz.v (.cons Fz.v (.cons Fz.nil (.cons Fz.nil .nil))))) (.cons Fz.v .nil)))⟩
 refine sk ?_
 refine sg ?_
 obtain ⟨x2, hx2, h⟩ := bindS h
 refine CallOk.call (w_ref01N2 hx2) (LeL.refl _) ?_
 refine wT [(2, .b 2 0), (4, vi x1.1), (7, vi x2.1), (8, .s (mI x2.2.1)), (9, vi x2.2.2)] [(2, .box [vi (0), vi (0), .v (.slice none 0 0), .v (.slice none 0 0)])] Q5 J1 rfl ?_
 refine sq ?_
 refine sg ?_
 refine wT [(2, .b 2 0), (4, vi x1.1), (7, vi x2.1), (8, .s (mI x2.2.1)), (32, vb (x2.2.2 != 0))] [(2, .box [vi (0), vi (0), .v (.slice none 0 0), .v (.slice none 0 0)])] Q5 J1 rfl ?_
 refine cn 32 (x2.2.2 != 0) rfl h (fun hb h => ?_) fun hb h => ?_
 ·refine sg ?_
  refine ⟨_, rfl, ?_⟩
  refine wT [(2, .b 2 0), (3, vb false)] [(2, .box [vi (0), vi (0), .v (.slice none 0 0), .v (.slice none 0 0)])] Q2 J1 rfl ?_
  refine rt ?_
  cases h
  exact ⟨_, rfl, (Fz.t (.cons (Fz.a (.cons Fz.v (.cons Fz.v (.cons Fz.nil (.cons Fz.nil .nil))))) (.cons Fz.v .nil)))⟩
 refine sk ?_
 refine sg ?_
 obtain ⟨x3, hx3, h⟩ := bindS h
 refine CallOk.call (w_ref01N4 hx3) (LeL.refl _) ?_
 refine wT [(2, .b 2 0), (4, vi x1.1), (7, vi x2.1), (10, vs x3.1), (11, .s (mI x3.2.1)), (12, vi x3.2.2)] [(2, .box [vi (0), vi (0), .v (.slice none 0 0), .v (.slice none 0 0)])] Q6 J1 rfl ?_
 refine sq ?_
 refine sg ?_
 refine wT [(2, .b 2 0), (4, vi x1.1), (7, vi x2.1), (10, vs x3.1), (11, .s (mI x3.2.1)), (41, vb (x3.2.2 != 0))] [(2, .box [vi (0), vi (0), .v (.slice none 0 0), .v (.slice none 0 0)])] Q6 J1 rfl ?_
 refine cn 41 (x3.2.2 != 0) rfl h (fun hb h => ?_) fun hb h => ?_
 ·refine sg ?_
  refine ⟨_, rfl, ?_⟩
  refine wT [(2, .b 2 0), (3, vb false)] [(2, .box [vi (0), vi (0), .v (.slice none 0 0), .v (.slice none 0 0)])] Q2 J1 rfl ?_
  refine rt ?_
  cases h
  exact ⟨_, rfl, (Fz.t (.cons (Fz.a (.cons Fz.v (.cons Fz.v (.cons Fz.nil (.cons Fz.nil .nil))))) (.cons Fz.v .nil)))⟩
 refine sk ?_
 refine sg ?_
 obtain ⟨x4, hx4, h⟩ := bindS h
 refine CallOk.call (w_ref01N3 hx4) (LeL.refl _) ?_
 refine wT [(2, .b 2 0), (4, vi x1.1), (7, vi x2.1), (10, vs x3.1), (13, .s (mU x4.1)), (14, .s (mI x4.2.1)), (15, vi x4.2.2)] [(2, .box [vi (0), vi (0), .v (.slice none 0 0), .v (.slice none 0 0)])] Q7 J1 rfl ?_
 refine sq ?_
 obtain ⟨v1, hv1, h⟩ := bindS h
 refine Ok.seqw ⟨Cat.tab [(2, .b 2 0), (4, vi x1.1), (7, vi x2.1), (10, vs x3.1), (13, .s (mU x4.1)), (55, vb v1)], [(2, .box [vi (0), vi (0), .v (.slice none 0 0), .v (.slice none 0 0)])]⟩ ?_ ?_
 ·refine rg ?_
  obtain ⟨c1, hg1, hv1⟩ := bindS hv1
  refine Br.itf hg1 (fun hb hg1 => ?_) fun hb hg1 => ?_
  ·cases hg1
   cases hv1
   exact wt Q6 J1 rfl
  refine ⟨_, List.length_map _, fun _ => ?_⟩
  cases hg1
  cases hv1
  exact wt Q6 J1 rfl
 refine cn 55 (v1) rfl h (fun hb h => ?_) fun hb h => ?_
 ·refine sg ?_
  refine ⟨_, rfl, ?_⟩
  refine wT [(2, .b 2 0), (3, vb false)] [(2, .box [vi (0), vi (0), .v (.slice none 0 0), .v (.slice none 0 0)])] Q2 J1 rfl ?_
  refine rt ?_
  cases h
  exact ⟨_, rfl, (Fz.t (.cons (Fz.a (.cons Fz.v (.cons Fz.v (.cons Fz.nil (.cons Fz.nil .nil))))) (.cons Fz.v .nil)))⟩
 refine sk ?_
 refine sg ?_
 obtain ⟨hc1, h⟩ := chk_some h
 refine ⟨str_max hc1, _, rfl, ?_⟩
 refine wT [(2, .b 2 0), (3, vb true)] [(2, .box [vi x1.1, vi x2.1, .s (mI x3.1), .s (mU x4.1)])] Q2 J1 rfl ?_
 refine rt ?_
 cases h
 exact ⟨_, rfl, (Fz.t (.cons (Fz.imm rfl) (.cons Fz.v .nil)))⟩
theorem w_ref02N4 {p_a} {p_b} {r} (h : ref02N10 p_a p_b = some r) : Pure Tryz.prog 161 [(vi p_a), (vi p_b)] (vi r) := by
 refine po Tryz.tok 8 Tryz.func161 (by kernel_rfl) rfl rfl rfl ?_
 unfold ref02N10 at h
 refine wE [(0, vi p_a), (1, vi p_b)] Q2 ?_
 refine sg ?_
 refine wE [(0, vi p_a), (1, vi p_b)] Q2 ?_
 refine sg ?_
 refine ⟨_, rfl, ?_⟩
 refine wE [(4, vi (xorK .i64 p_a p_b))] Q1 ?_
 refine rt ?_
 cases h
 exact Fz.v
theorem w_ref02_Of {p_b} {r} (h : ref02_Of p_b = some r) : Pure Tryz.prog 130 [(.s (mI p_b))] (vi r) := by
 refine po Tryz.tok 34 Tryz.func130 (by kernel_rfl) rfl rfl rfl ?_
 unfold ref02_Of at h
 refine wE [(0, .s (mI p_b))] Q1 ?_
 refine sg ?_
 refine wE [(0, .s (mI p_b))] Q1 ?_
 refine sg ?_
 refine wE [(0, .s (mI p_b)), (3, vi (4294967295))] Q2 ?_
 obtain ⟨v1, hv1, h⟩ := bindS h
 refine Ok.seqw ⟨Cat.tab [(3, vi v1)], []⟩ ?_ ?_
 ·refine sg ?_
  refine wE [(0, .s (mI p_b)), (3, vi (4294967295)), (4, vi (0))] Q3 ?_
  refine bl ?_
  refine Ok.loop (fun (s1 : Int × Int) => ⟨Cat.tab [(0, .s (mI p_b)), (3, vi s1.1), (4, vi s1.2)], []⟩) (ref02_Of_B1 p_b) (s0 := (4294967295, 0)) hv1 (wt Q3 Q0 rfl) ?_
  intro s1 y1 hB1 hy1
  unfold ref02_Of_B1 at hB1
  refine sq ?_
  refine sg ?_
  refine ⟨_, List.length_map _, fun _ => ?_⟩
  refine wE [(0, .s (mI p_b)), (3, vi s1.1), (4, vi s1.2), (10, vb (decide (s1.2 < (p_b.length : Int))))] Q4 ?_
  refine cn 10 (decide (s1.2 < (p_b.length : Int))) rfl hB1 (fun hb hB1 => ?_) fun hb hB1 => ?_
  ·refine sk ?_
   obtain ⟨v2, hv2, hB1⟩ := bindS hB1
   refine Ok.seqw ⟨Cat.tab [(0, .s (mI p_b)), (3, vi v2), (4, vi s1.2)], []⟩ ?_ ?_
   ·refine bl ?_
    refine sg ?_
    obtain ⟨x1, hx1, hv2⟩ := bindS hv2
    obtain ⟨x2, hx2, hv2⟩ := bindS hv2
    refine ⟨_, idx_nat hx1, _, idx_row hx1, _, rfl, _, wrap_of_u8 (k := .i64) (by decide) _, ?_⟩
    refine CallOk.call (w_ref02N4 hx2) (LeL.refl _) ?_
    refine wE [(0, .s (mI p_b)), (3, vi x2), (4, vi s1.2)] Q3 ?_
    refine sg ?_
    refine wE [(0, .s (mI p_b)), (3, vi x2), (4, vi s1.2), (5, vi (0))] Q4 ?_
    refine bl ?_
    refine Ok.loop (fun (s2 : Int × Int) => ⟨Cat.tab [(0, .s (mI p_b)), (3, vi s2.1), (4, vi s1.2), (5, vi s2.2)], []⟩) (ref02_Of_B2) (s0 := (x2, 0)) hv2 (wt Q4 Q0 rfl) ?_
    intro s2 y2 hB2 hy2
    unfold ref02_Of_B2 at hB2
    refine sq ?_
    refine sg ?_
    refine wE [(0, .s (mI p_b)), (3, vi s2.1), (4, vi s1.2), (5, vi s2.2), (21, vb (decide (s2.2 < 8)))] Q5 ?_
    refine cn 21 (decide (s2.2 < 8)) rfl hB2 (fun hb hB2 => ?_) fun hb hB2 => ?_
    ·refine sk ?_
     obtain ⟨v3, hv3, hB2⟩ := bindS hB2
     refine Ok.seqw ⟨Cat.tab [(0, .s (mI p_b)), (3, vi v3), (4, vi s1.2), (5, vi s2.2)], []⟩ ?_ ?_
     ·refine bl ?_
      refine sg ?_
      refine ⟨(by decide), _, rfl, ?_⟩
      refine wE [(0, .s (mI p_b)), (3, vi s2.1), (4, vi s1.2), (5, vi s2.2), (6, vb ((Int.tmod s2.1 (2)) == 1))] Q5 ?_
      refine sg ?_
      refine ⟨(by decide), _, rfl, ?_⟩
      refine wE [(0, .s (mI p_b)), (3, vi (quoK .i64 s2.1 (2))), (4, vi s1.2), (5, vi s2.2), (6, vb ((Int.tmod s2.1 (2)) == 1))] Q5 ?_
      refine sg ?_
      refine wE [(0, .s (mI p_b)), (3, vi (quoK .i64 s2.1 (2))), (4, vi s1.2), (5, vi s2.2), (29, vb ((Int.tmod s2.1 (2)) == 1))] Q5 ?_
      refine cn 29 ((Int.tmod s2.1 (2)) == 1) rfl hv3 (fun hb hv3 => ?_) fun hb hv3 => ?_
      ·refine rg ?_
       obtain ⟨x3, hx3, hv3⟩ := bindS hv3
       refine CallOk.call (w_ref02N4 hx3) (LeL.refl _) ?_
       cases hv3
       exact wt Q4 Q0 rfl
      refine sk ?_
      cases hv3
      exact wt Q4 Q0 rfl
     refine rg ?_
     obtain ⟨hc1, hB2⟩ := chk_some hB2
     refine (Or.inl ⟨hc1, ?_⟩)
     exact ⟨_, sj hB2, wt Q4 Q0 rfl⟩
    refine xt ?_
    have hB2 := out_ret hB2 hy2
    cases hB2
    exact wt Q3 Q0 rfl
   refine rg ?_
   obtain ⟨hc2, hB1⟩ := chk_some hB1
   refine (Or.inl ⟨hc2, ?_⟩)
   exact ⟨_, sj hB1, wt Q3 Q0 rfl⟩
  refine xt ?_
  have hB1 := out_ret hB1 hy1
  cases hB1
  exact wt Q1 Q0 rfl
 refine sg ?_
 obtain ⟨x4, hx4, h⟩ := bindS h
 refine CallOk.call (w_ref02N4 hx4) (LeL.refl _) ?_
 refine wE [(2, vi x4)] Q1 ?_
 refine rt ?_
 cases h
 exact Fz.v
theorem wo_ref02N1 {p_data} {r} (h : ref02N1 p_data = some r) : POwn Tryz.prog 159 [(.s (mI p_data))] 3 1 (mU r) := by
 refine pw Tryz.tok 24 Tryz.func159 (by kernel_rfl) rfl rfl rfl ?_
 unfold ref02N1 at h
 refine wE [(0, .s (mI p_data))] Q1 ?_
 refine sg ?_
 refine wE [(0, .s (mI p_data))] Q1 ?_
 refine sg ?_
 refine wE [(0, .s (mI p_data)), (3, .v (.slice none 0 0))] Q2 ?_
 obtain ⟨v1, hv1, h⟩ := bindS h
 refine Ok.seqw ⟨Cat.tab [(3, .o 22)], [(22, .own 3 1 (mU v1))]⟩ ?_ ?_
 ·refine sg ?_
  refine wE [(0, .s (mI p_data)), (3, .v (.slice none 0 0)), (4, vi (0))] Q3 ?_
  refine bl ?_
  refine Ok.loop (fun (s1 : Int × (List Int)) => ⟨Cat.tab [(0, .s (mI p_data)), (3, .o 22), (4, vi s1.1)], [(22, .own 3 1 (mU s1.2))]⟩) (ref02N2 p_data) (s0 := (0, [])) hv1 ((Wk.own0 (t := 3) (id := 22) (E := 3) (K := 1) rfl rfl).trans (wt Q3 ⟨⟨_, rfl, .refl _⟩, Q0⟩ rfl)) ?_
  intro s1 y1 hB1 hy1
  unfold ref02N2 at hB1
  refine sq ?_
  refine sg ?_
  refine ⟨_, List.length_map _, fun _ => ?_⟩
  refine wT [(0, .s (mI p_data)), (3, .o 22), (4, vi s1.1), (8, vb (decide (s1.1 < (p_data.length : Int))))] [(22, .own 3 1 (mU s1.2))] Q4 J1 rfl ?_
  refine cn 8 (decide (s1.1 < (p_data.length : Int))) rfl hB1 (fun hb hB1 => ?_) fun hb hB1 => ?_
  ·refine sk ?_
   refine sq ?_
   refine bl ?_
   refine rg ?_
   obtain ⟨hc1, hB1⟩ := chk_some hB1
   obtain ⟨hc2, hB1⟩ := chk_some hB1
   obtain ⟨x1, hx1, hB1⟩ := bindS hB1
   refine (Or.inl ⟨hc1, _, List.length_map _, fun _ => ⟨_, rfl, _, sl_nat hc2.1, _, sl_nat (sl_lh hc2), sl_le hc2, sl_len3 hc2, rowsK (f := cU8) (K := 1) (fun _ => rfl) p_data, _, sl_sub _ _ _ _, ?_⟩⟩)
   refine CallOk.call (w_ref02_Of hx1) (LeL.refl _) ?_
   obtain ⟨hc3, hB1⟩ := chk_some hB1
   refine Or.inl ⟨rowsLen_map (f := Go.Cat.encI) (n := 1) (fun _ => rfl) ([x1]), app_b2 (f := Go.Cat.encI) (l := s1.2) (l' := [x1]) hc3, _, (List.map_append (f := Go.Cat.encI) (l₁ := s1.2) (l₂ := [x1])).symm, ?_⟩
   refine wT [(0, .s (mI p_data)), (3, .o 22), (4, vi s1.1)] [(22, .own 3 1 (mU (s1.2 ++ [x1])))] Q3 J1 rfl ?_
   refine rg ?_
   obtain ⟨hc4, hB1⟩ := chk_some hB1
   refine (Or.inl ⟨hc4, ?_⟩)
   exact ⟨_, sj hB1, wt Q3 J1 rfl⟩
  refine xt ?_
  have hB1 := out_ret hB1 hy1
  cases hB1
  exact wt Q1 J1 rfl
 refine sg ?_
 refine wT [(2, .o 22)] [(22, .own 3 1 (mU v1))] Q1 J1 rfl ?_
 refine rt ?_
 cases h
 exact (.inr ⟨_, rfl, rfl⟩)
theorem w_ref02N1 {p_data} {r} (h : ref02N1 p_data = some r) : Pure Tryz.prog 159 [(.s (mI p_data))] (.s (mU r)) := (wo_ref02N1 h).pure
theorem w_ref02N3 {p_data} {p_sums} {r} (h : ref02_Check p_data p_sums = some r) : Pure Tryz.prog 126 [(.s (mI p_data)), (.s (mU p_sums))] (vi r) := by
 refine po Tryz.tok 43 Tryz.func126 (by kernel_rfl) rfl rfl rfl ?_
 unfold ref02_Check at h
 refine wE [(0, .s (mI p_data)), (1, .s (mU p_sums))] Q2 ?_
 refine sg ?_
 refine wE [(0, .s (mI p_data)), (1, .s (mU p_sums))] Q2 ?_
 refine sg ?_
 obtain ⟨x1, hx1, h⟩ := bindS h
 refine CallOk.call (w_ref02N1 hx1) (LeL.refl _) ?_
 refine wE [(1, .s (mU p_sums)), (5, .s (mU x1))] Q2 ?_
 refine Ok.seqj (fun v1 => ⟨Cat.tab [], []⟩) (fun v1 => ref02N8 v1 = some r) ?_ ?_
 ·refine sg ?_
  refine wE [(1, .s (mU p_sums)), (5, .s (mU x1)), (6, vi (0))] Q3 ?_
  refine bl ?_
  refine Ok.loop (fun (s1 : Int) => ⟨Cat.tab [(1, .s (mU p_sums)), (5, .s (mU x1)), (6, vi s1)], []⟩) (ref02N7 x1 p_sums) (s0 := 0) h (wt Q3 Q0 rfl) ?_
  intro s1 y1 hB1 hy1
  unfold ref02N7 at hB1
  refine sq ?_
  obtain ⟨v2, hv2, hB1⟩ := bindS hB1
  refine Ok.seqw ⟨Cat.tab [(1, .s (mU p_sums)), (5, .s (mU x1)), (6, vi s1), (18, vb v2)], []⟩ ?_ ?_
  ·refine rg ?_
   refine ⟨_, List.length_map _, fun _ => ?_⟩
   obtain ⟨c1, hg1, hv2⟩ := bindS hv2
   refine Br.itf hg1 (fun hb hg1 => ?_) fun hb hg1 => ?_
   ·cases hg1
    cases hv2
    exact wt Q4 Q0 rfl
   refine ⟨_, List.length_map _, fun _ => ?_⟩
   cases hg1
   cases hv2
   exact wt Q4 Q0 rfl
  refine cn 18 (v2) rfl hB1 (fun hb hB1 => ?_) fun hb hB1 => ?_
  ·refine sk ?_
   refine sq ?_
   refine bl ?_
   obtain ⟨v3, hv3, hB1⟩ := bindS hB1
   refine Ok.seqw ⟨Cat.tab [(1, .s (mU p_sums)), (5, .s (mU x1)), (6, vi s1), (41, vb v3)], []⟩ ?_ ?_
   ·refine Ok.draw (m := 21) (MD := ⟨[]⟩) (CH := ⟨[]⟩) Tryz.tok Tryz.mixed (by kernel_rfl) ?_
    refine ⟨_, rfl, _, rfl, _, ⟨_, List.length_map _, fun _ => rfl⟩, _, rfl, _, rfl, ?_⟩
    obtain ⟨c2, hg2, hv3⟩ := bindS hv3
    refine Br.itf hg2 (fun hb hg2 => ?_) fun hb hg2 => ?_
    ·cases hg2
     refine ⟨_, rfl, ?_⟩
     refine ⟨_, rfl, ?_⟩
     obtain ⟨c3, hg3, hv3⟩ := bindS hv3
     replace hg3 := iteT hg3
     cases hg3
     refine ⟨_, rfl, ?_⟩
     refine ⟨Q0, ?_⟩
     cases hv3
     exact wt Q4 Q0 rfl
    refine ⟨_, rfl, _, rfl, _, ⟨_, List.length_map _, fun _ => rfl⟩, _, rfl, ?_⟩
    cases hg2
    refine ⟨_, rfl, ?_⟩
    refine ⟨_, rfl, ?_⟩
    obtain ⟨c3, hg4, hv3⟩ := bindS hv3
    refine Br.itf hg4 (fun hb hg4 => ?_) fun hb hg4 => ?_
    ·cases hg4
     refine ⟨_, rfl, ?_⟩
     refine ⟨Q0, ?_⟩
     cases hv3
     exact wt Q4 Q0 rfl
    obtain ⟨x2, hx2, hg4⟩ := bindS hg4
    obtain ⟨x3, hx3, hg4⟩ := bindS hg4
    refine ⟨_, rfl, _, rfl, _, ⟨_, idx_nat hx2, _, idx_row hx2, rfl⟩, _, ⟨_, rfl, rfl⟩, _, rfl, _, rfl, _, ⟨_, idx_nat hx3, _, idx_row hx3, rfl⟩, _, ⟨_, rfl, rfl⟩, _, rfl, ?_⟩
    cases hg4
    refine ⟨_, rfl, ?_⟩
    refine ⟨Q0, ?_⟩
    cases hv3
    exact wt Q4 Q0 rfl
   refine cn 41 (v3) rfl hB1 (fun hb hB1 => ?_) fun hb hB1 => ?_
   ·refine sg ?_
    refine wE [(4, vi s1)] Q1 ?_
    refine rt ?_
    have hB1 := out_ret hB1 hy1
    cases hB1
    exact Fz.v
   refine sk ?_
   refine rg ?_
   obtain ⟨hc1, hB1⟩ := chk_some hB1
   refine (Or.inl ⟨hc1, ?_⟩)
   exact ⟨_, sj hB1, wt Q3 Q0 rfl⟩
  refine xt ?_
  have hB1 := out_ret hB1 hy1
  exact ⟨_, hB1, wt Q0 Q0 rfl⟩
 intro v1 h
 unfold ref02N8 at h
 refine sg ?_
 refine wE [(4, vi (-1))] Q1 ?_
 refine rt ?_
 cases h
 exact Fz.v
theorem w_ref25_May {p_c} {r} (h : ref25_May p_c = some r) : Pure Tryz.prog 80 [(.a [(vi p_c.Id), (vi p_c.Ver), (.s (mI p_c.Data)), (.s (mU p_c.Sums))])] (vb r) := by
 refine po Tryz.tok 35 Tryz.func80 (by kernel_rfl) rfl rfl rfl ?_
 unfold ref25_May at h
 refine wE [(0, .a [vi p_c.Id, vi p_c.Ver, .s (mI p_c.Data), .s (mU p_c.Sums)])] Q1 ?_
 refine sg ?_
 refine wT [(1, .b 1 0)] [(1, .box [vi p_c.Id, vi p_c.Ver, .s (mI p_c.Data), .s (mU p_c.Sums)])] Q1 J1 rfl ?_
 obtain ⟨v1, hv1, h⟩ := bindS h
 refine Ok.seqw ⟨Cat.tab [(2, vb v1)], []⟩ ?_ ?_
 ·refine rg ?_
  refine ⟨_, rfl, ?_⟩
  obtain ⟨c1, hg1, hv1⟩ := bindS hv1
  refine Br.ite hg1 (fun hb hg1 => ?_) fun hb hg1 => ?_
  ·refine ⟨_, rfl, ?_⟩
   cases hg1
   obtain ⟨c2, hg2, hv1⟩ := bindS hv1
   refine Br.ite hg2 (fun hb hg2 => ?_) fun hb hg2 => ?_
   ·refine ⟨_, rfl, ?_⟩
    cases hg2
    obtain ⟨c3, hg3, hv1⟩ := bindS hv1
    refine Br.ite hg3 (fun hb hg3 => ?_) fun hb hg3 => ?_
    ·refine ⟨_, rfl, ?_⟩
     cases hg3
     obtain ⟨c4, hg4, hv1⟩ := bindS hv1
     refine Br.ite hg4 (fun hb hg4 => ?_) fun hb hg4 => ?_
     ·refine ⟨_, rfl, _, List.length_map _, fun _ => ?_⟩
      cases hg4
      obtain ⟨c5, hg5, hv1⟩ := bindS hv1
      refine Br.ite hg5 (fun hb hg5 => ?_) fun hb hg5 => ?_
      ·obtain ⟨x1, hx1, hg5⟩ := bindS hg5
       refine ⟨_, rfl, _, rfl, ?_⟩
       refine CallOk.call (w_ref02N3 hx1) (LeL.refl _) ?_
       cases hg5
       cases hv1
       exact wt Q1 Q0 rfl
      cases hg5
      cases hv1
      exact wt Q1 Q0 rfl
     cases hg4
     obtain ⟨c5, hg6, hv1⟩ := bindS hv1
     replace hg6 := iteF hg6
     cases hg6
     cases hv1
     exact wt Q1 Q0 rfl
    cases hg3
    obtain ⟨c4, hg7, hv1⟩ := bindS hv1
    replace hg7 := iteF hg7
    cases hg7
    obtain ⟨c5, hg8, hv1⟩ := bindS hv1
    replace hg8 := iteF hg8
    cases hg8
    cases hv1
    exact wt Q1 Q0 rfl
   cases hg2
   obtain ⟨c3, hg9, hv1⟩ := bindS hv1
   replace hg9 := iteF hg9
   cases hg9
   obtain ⟨c4, hg10, hv1⟩ := bindS hv1
   replace hg10 := iteF hg10
   cases hg10
   obtain ⟨c5, hg11, hv1⟩ := bindS hv1
   replace hg11 := iteF hg11
   cases hg11
   cases hv1
   exact wt Q1 Q0 rfl
  cases hg1
  obtain ⟨c2, hg12, hv1⟩ := bindS hv1
  replace hg12 := iteF hg12
  cases hg12
  obtain ⟨c3, hg13, hv1⟩ := bindS hv1
  replace hg13 := iteF hg13
  cases hg13
  obtain ⟨c4, hg14, hv1⟩ := bindS hv1
  replace hg14 := iteF hg14
  cases hg14
  obtain ⟨c5, hg15, hv1⟩ := bindS hv1
  replace hg15 := iteF hg15
  cases hg15
  cases hv1
  exact wt Q1 Q0 rfl
 refine rt ?_
 cases h
 exact Fz.v
theorem w_ref01_zig {p_n} {r} (h : ref01_zig p_n = some r) : Pure Tryz.prog 160 [(vi p_n)] (.v (.int .u64 r)) := by
 refine po Tryz.tok 14 Tryz.func160 (by kernel_rfl) rfl rfl rfl ?_
 unfold ref01_zig at h
 refine wE [(0, vi p_n)] Q1 ?_
 refine sg ?_
 refine wE [(0, vi p_n)] Q1 ?_
 refine sq ?_
 refine sg ?_
 refine wE [(0, vi p_n), (4, vb (decide (p_n < 0)))] Q2 ?_
 refine cn 4 (decide (p_n < 0)) rfl h (fun hb h => ?_) fun hb h => ?_
 ·refine sg ?_
  obtain ⟨hc1, h⟩ := chk_some h
  obtain ⟨hc2, h⟩ := chk_some h
  refine (Or.inl ⟨hc1, _, InI64.wrap hc2, _, rfl, _, rfl, _, rfl, ?_⟩)
  refine wE [(2, .v (.int .u64 (IntKind.u64.wrap ((IntKind.u64.wrap (2 * (IntKind.u64.wrap (0 - (p_n + 1))))) + 1))))] Q1 ?_
  refine rt ?_
  cases h
  exact Fz.v
 refine sk ?_
 refine sg ?_
 refine ⟨_, rfl, _, rfl, ?_⟩
 refine wE [(2, .v (.int .u64 (IntKind.u64.wrap (2 * (IntKind.u64.wrap p_n)))))] Q1 ?_
 refine rt ?_
 cases h
 exact Fz.v
theorem wo_ref01N1 {p_n} {r} (h : ref01_Int p_n = some r) : POwn Tryz.prog 127 [(vi p_n)] 5 1 (mI r) := by
 refine pw Tryz.tok 25 Tryz.func127 (by kernel_rfl) rfl rfl rfl ?_
 unfold ref01_Int at h
 refine wE [(0, vi p_n)] Q1 ?_
 refine sg ?_
 refine wE [(0, vi p_n)] Q1 ?_
 refine sg ?_
 refine Or.inr ?_
 refine wT [(0, vi p_n), (3, .o 5)] [(5, .own 5 1 (mI ([] : List UInt8)))] Q2 J1 rfl ?_
 refine sg ?_
 obtain ⟨x1, hx1, h⟩ := bindS h
 refine CallOk.call (w_ref01_zig hx1) (LeL.refl _) ?_
 refine wT [(3, .o 5), (4, .v (.int .u64 x1))] [(5, .own 5 1 (mI ([] : List UInt8)))] Q2 J1 rfl ?_
 obtain ⟨v1, hv1, h⟩ := bindS h
 refine Ok.seqw ⟨Cat.tab [(3, .o 5), (4, .v (.int .u64 v1.1))], [(5, .own 5 1 (mI v1.2))]⟩ ?_ ?_
 ·refine bl ?_
  refine Ok.loop (fun (s1 : Int × (List UInt8)) => ⟨Cat.tab [(3, .o 5), (4, .v (.int .u64 s1.1))], [(5, .own 5 1 (mI s1.2))]⟩) (ref01N1) (s0 := (x1, ([] : List UInt8))) hv1 (wt Q2 ⟨⟨_, rfl, .refl _⟩, Q0⟩ rfl) ?_
  intro s1 y1 hB1 hy1
  unfold ref01N1 at hB1
  refine sq ?_
  refine sg ?_
  refine wT [(3, .o 5), (4, .v (.int .u64 s1.1)), (9, vb (decide (s1.1 ≥ 128)))] [(5, .own 5 1 (mI s1.2))] Q3 J1 rfl ?_
  refine cn 9 (decide (s1.1 ≥ 128)) rfl hB1 (fun hb hB1 => ?_) fun hb hB1 => ?_
  ·refine sk ?_
   refine bl ?_
   refine sg ?_
   obtain ⟨hc1, hB1⟩ := chk_some hB1
   refine ⟨(by decide), _, rfl, _, rfl, _, toU8_wrap _, Or.inl ⟨rowsLen_map (f := cU8) (n := 1) (fun _ => rfl) ([toU8 (IntKind.u64.wrap (128 + (Int.tmod s1.1 (128))))]), app_b2 (f := cU8) (l := s1.2) (l' := [toU8 (IntKind.u64.wrap (128 + (Int.tmod s1.1 (128))))]) hc1, _, (List.map_append (f := cU8) (l₁ := s1.2) (l₂ := [toU8 (IntKind.u64.wrap (128 + (Int.tmod s1.1 (128))))])).symm, ?_⟩⟩
   refine wT [(3, .o 5), (4, .v (.int .u64 s1.1))] [(5, .own 5 1 (mI (s1.2 ++ [toU8 (IntKind.u64.wrap (128 + (Int.tmod s1.1 (128))))])))] Q2 J1 rfl ?_
   refine rg ?_
   refine ⟨(by decide), _, rfl, ?_⟩
   exact ⟨_, sj hB1, wt Q2 J1 rfl⟩
  refine xt ?_
  have hB1 := out_ret hB1 hy1
  cases hB1
  exact wt Q2 J1 rfl
 refine sg ?_
 obtain ⟨hc2, h⟩ := chk_some h
 refine ⟨_, toU8_wrap _, Or.inl ⟨rowsLen_map (f := cU8) (n := 1) (fun _ => rfl) ([toU8 v1.1]), app_b2 (f := cU8) (l := v1.2) (l' := [toU8 v1.1]) hc2, _, (List.map_append (f := cU8) (l₁ := v1.2) (l₂ := [toU8 v1.1])).symm, ?_⟩⟩
 refine wT [(3, .o 5)] [(5, .own 5 1 (mI (v1.2 ++ [toU8 v1.1])))] Q1 J1 rfl ?_
 refine sg ?_
 refine wT [(2, .o 5)] [(5, .own 5 1 (mI (v1.2 ++ [toU8 v1.1])))] Q1 J1 rfl ?_
 refine rt ?_
 cases h
 exact (.inr ⟨_, rfl, rfl⟩)
theorem w_ref01_Int {p_n} {r} (h : ref01_Int p_n = some r) : Pure Tryz.prog 127 [(vi p_n)] (.s (mI r)) := (wo_ref01N1 h).pure
theorem wo_ref01N3 {p_s} {r} (h : ref01_Str p_s = some r) : POwn Tryz.prog 128 [(vs p_s)] 5 1 (mI r) := by
 refine pw Tryz.tok 21 Tryz.func128 (by kernel_rfl) rfl rfl rfl ?_
 unfold ref01_Str at h
 refine wE [(0, vs p_s)] Q1 ?_
 refine sg ?_
 refine wE [(0, vs p_s)] Q1 ?_
 refine sg ?_
 obtain ⟨x1, hx1, h⟩ := bindS h
 refine ⟨_, str_size _, ?_⟩
 refine CallOk.own (D := 7) (wo_ref01N1 hx1) (LeL.refl _) rfl ?_
 refine wT [(0, vs p_s), (3, .o 7)] [(7, .own 5 1 (mI x1))] Q2 J1 rfl ?_
 obtain ⟨v1, hv1, h⟩ := bindS h
 refine Ok.seqw ⟨Cat.tab [(3, .o 7)], [(7, .own 5 1 (mI v1))]⟩ ?_ ?_
 ·refine sg ?_
  refine wT [(0, vs p_s), (3, .o 7), (4, vi (0))] [(7, .own 5 1 (mI x1))] Q3 J1 rfl ?_
  refine bl ?_
  refine Ok.loop (fun (s1 : Int × (List UInt8)) => ⟨Cat.tab [(0, vs p_s), (3, .o 7), (4, vi s1.1)], [(7, .own 5 1 (mI s1.2))]⟩) (ref01N14 p_s) (s0 := (0, x1)) hv1 (wt Q3 ⟨⟨_, rfl, .refl _⟩, Q0⟩ rfl) ?_
  intro s1 y1 hB1 hy1
  unfold ref01N14 at hB1
  refine sq ?_
  refine sg ?_
  refine ⟨_, str_size _, ?_⟩
  refine wT [(0, vs p_s), (3, .o 7), (4, vi s1.1), (11, vb (decide (s1.1 < (p_s.length : Int))))] [(7, .own 5 1 (mI s1.2))] Q4 J1 rfl ?_
  refine cn 11 (decide (s1.1 < (p_s.length : Int))) rfl hB1 (fun hb hB1 => ?_) fun hb hB1 => ?_
  ·refine sk ?_
   refine sq ?_
   refine bl ?_
   refine rg ?_
   obtain ⟨x2, hx2, hB1⟩ := bindS hB1
   obtain ⟨hc1, hB1⟩ := chk_some hB1
   refine ⟨_, idx_nat hx2, _, idx_get hx2, Or.inl ⟨rowsLen_map (f := cU8) (n := 1) (fun _ => rfl) ([x2]), app_b2 (f := cU8) (l := s1.2) (l' := [x2]) hc1, _, (List.map_append (f := cU8) (l₁ := s1.2) (l₂ := [x2])).symm, ?_⟩⟩
   refine wT [(0, vs p_s), (3, .o 7), (4, vi s1.1)] [(7, .own 5 1 (mI (s1.2 ++ [x2])))] Q3 J1 rfl ?_
   refine rg ?_
   obtain ⟨hc2, hB1⟩ := chk_some hB1
   refine (Or.inl ⟨hc2, ?_⟩)
   exact ⟨_, sj hB1, wt Q3 J1 rfl⟩
  refine xt ?_
  have hB1 := out_ret hB1 hy1
  cases hB1
  exact wt Q1 J1 rfl
 refine sg ?_
 refine wT [(2, .o 7)] [(7, .own 5 1 (mI v1))] Q1 J1 rfl ?_
 refine rt ?_
 cases h
 exact (.inr ⟨_, rfl, rfl⟩)
theorem w_ref01_Str {p_s} {r} (h : ref01_Str p_s = some r) : Pure Tryz.prog 128 [(vs p_s)] (.s (mI r)) := (wo_ref01N3 h).pure
theorem wo_ref01N2 {p_l} {r} (h : ref01_Ints p_l = some r) : POwn Tryz.prog 129 [(.s (mU p_l))] 5 1 (mI r) := by
 refine pw Tryz.tok 22 Tryz.func129 (by kernel_rfl) rfl rfl rfl ?_
 unfold ref01_Ints at h
 refine wE [(0, .s (mU p_l))] Q1 ?_
 refine sg ?_
 refine wE [(0, .s (mU p_l))] Q1 ?_
 refine sg ?_
 obtain ⟨x1, hx1, h⟩ := bindS h
 refine ⟨_, List.length_map _, fun _ => ?_⟩
 refine CallOk.own (D := 7) (wo_ref01N1 hx1) (LeL.refl _) rfl ?_
 refine wT [(0, .s (mU p_l)), (3, .o 7)] [(7, .own 5 1 (mI x1))] Q2 J1 rfl ?_
 obtain ⟨v1, hv1, h⟩ := bindS h
 refine Ok.seqw ⟨Cat.tab [(3, .o 7)], [(7, .own 5 1 (mI v1))]⟩ ?_ ?_
 ·refine sg ?_
  refine wT [(0, .s (mU p_l)), (3, .o 7), (4, vi (0))] [(7, .own 5 1 (mI x1))] Q3 J1 rfl ?_
  refine bl ?_
  refine Ok.loop (fun (s1 : Int × (List UInt8)) => ⟨Cat.tab [(0, .s (mU p_l)), (3, .o 7), (4, vi s1.1)], [(7, .own 5 1 (mI s1.2))]⟩) (ref01N3 p_l) (s0 := (0, x1)) hv1 (wt Q3 ⟨⟨_, rfl, .refl _⟩, Q0⟩ rfl) ?_
  intro s1 y1 hB1 hy1
  unfold ref01N3 at hB1
  refine sq ?_
  refine sg ?_
  refine ⟨_, List.length_map _, fun _ => ?_⟩
  refine wT [(0, .s (mU p_l)), (3, .o 7), (4, vi s1.1), (11, vb (decide (s1.1 < (p_l.length : Int))))] [(7, .own 5 1 (mI s1.2))] Q4 J1 rfl ?_
  refine cn 11 (decide (s1.1 < (p_l.length : Int))) rfl hB1 (fun hb hB1 => ?_) fun hb hB1 => ?_
  ·refine sk ?_
   refine sq ?_
   refine bl ?_
   refine rg ?_
   obtain ⟨x2, hx2, hB1⟩ := bindS hB1
   obtain ⟨x3, hx3, hB1⟩ := bindS hB1
   refine ⟨_, idx_nat hx2, _, idx_row hx2, _, rfl, ?_⟩
   refine CallOk.call (w_ref01_Int hx3) (LeL.refl _) ?_
   obtain ⟨hc1, hB1⟩ := chk_some hB1
   refine ⟨rowsLen_map (f := cU8) (n := 1) (fun _ => rfl) x3, app_b2 (f := cU8) (l := s1.2) (l' := x3) hc1, _, (List.map_append (f := cU8) (l₁ := s1.2) (l₂ := x3)).symm, ?_⟩
   refine wT [(0, .s (mU p_l)), (3, .o 7), (4, vi s1.1)] [(7, .own 5 1 (mI (s1.2 ++ x3)))] Q3 J1 rfl ?_
   refine rg ?_
   obtain ⟨hc2, hB1⟩ := chk_some hB1
   refine (Or.inl ⟨hc2, ?_⟩)
   exact ⟨_, sj hB1, wt Q3 J1 rfl⟩
  refine xt ?_
  have hB1 := out_ret hB1 hy1
  cases hB1
  exact wt Q1 J1 rfl
 refine sg ?_
 refine wT [(2, .o 7)] [(7, .own 5 1 (mI v1))] Q1 J1 rfl ?_
 refine rt ?_
 cases h
 exact (.inr ⟨_, rfl, rfl⟩)
theorem w_ref01N1 {p_l} {r} (h : ref01_Ints p_l = some r) : Pure Tryz.prog 129 [(.s (mU p_l))] (.s (mI r)) := (wo_ref01N2 h).pure
theorem wo_ref25N1 {p_c} {r} (h : ref25_Page p_c = some r) : POwn Tryz.prog 82 [(.a [(vi p_c.Id), (vi p_c.Ver), (.s (mI p_c.Data)), (.s (mU p_c.Sums))])] 5 1 (mI r) := by
 refine pw Tryz.tok 45 Tryz.func82 (by kernel_rfl) rfl rfl rfl ?_
 unfold ref25_Page at h
 refine wE [(0, .a [vi p_c.Id, vi p_c.Ver, .s (mI p_c.Data), .s (mU p_c.Sums)])] Q1 ?_
 refine sg ?_
 refine wT [(1, .b 1 0)] [(1, .box [vi p_c.Id, vi p_c.Ver, .s (mI p_c.Data), .s (mU p_c.Sums)])] Q1 J1 rfl ?_
 refine sg ?_
 obtain ⟨x1, hx1, h⟩ := bindS h
 refine Or.inr ⟨_, rfl, ?_⟩
 refine CallOk.call (w_ref01_Int hx1) (LeL.refl _) ?_
 obtain ⟨hc1, h⟩ := chk_some h
 refine ⟨rowsLen_map (f := cU8) (n := 1) (fun _ => rfl) x1, app_b2 (f := cU8) (l := ([] : List UInt8)) (l' := x1) hc1, _, (List.map_append (f := cU8) (l₁ := ([] : List UInt8)) (l₂ := x1)).symm, ?_⟩
 refine wT [(1, .b 1 0), (3, .o 5)] [(1, .box [vi p_c.Id, vi p_c.Ver, .s (mI p_c.Data), .s (mU p_c.Sums)]), (5, .own 5 1 (mI (([] : List UInt8) ++ x1)))] Q2 J2 rfl ?_
 refine sg ?_
 obtain ⟨x2, hx2, h⟩ := bindS h
 refine ⟨_, rfl, ?_⟩
 refine CallOk.call (w_ref01_Int hx2) (LeL.refl _) ?_
 obtain ⟨hc2, h⟩ := chk_some h
 refine ⟨rowsLen_map (f := cU8) (n := 1) (fun _ => rfl) x2, app_b2 (f := cU8) (l := ([] : List UInt8) ++ x1) (l' := x2) hc2, _, (List.map_append (f := cU8) (l₁ := ([] : List UInt8) ++ x1) (l₂ := x2)).symm, ?_⟩
 refine wT [(1, .b 1 0), (3, .o 5)] [(1, .box [vi p_c.Id, vi p_c.Ver, .s (mI p_c.Data), .s (mU p_c.Sums)]), (5, .own 5 1 (mI ((([] : List UInt8) ++ x1) ++ x2)))] Q2 J2 rfl ?_
 refine sg ?_
 obtain ⟨x3, hx3, h⟩ := bindS h
 refine ⟨_, rfl, _, rfl, ?_⟩
 refine CallOk.call (w_ref01_Str hx3) (LeL.refl _) ?_
 obtain ⟨hc3, h⟩ := chk_some h
 refine ⟨rowsLen_map (f := cU8) (n := 1) (fun _ => rfl) x3, app_b2 (f := cU8) (l := (([] : List UInt8) ++ x1) ++ x2) (l' := x3) hc3, _, (List.map_append (f := cU8) (l₁ := (([] : List UInt8) ++ x1) ++ x2) (l₂ := x3)).symm, ?_⟩
 refine wT [(1, .b 1 0), (3, .o 5)] [(1, .box [vi p_c.Id, vi p_c.Ver, .s (mI p_c.Data), .s (mU p_c.Sums)]), (5, .own 5 1 (mI (((([] : List UInt8) ++ x1) ++ x2) ++ x3)))] Q2 J2 rfl ?_
 refine sg ?_
 obtain ⟨x4, hx4, h⟩ := bindS h
 refine ⟨_, rfl, ?_⟩
 refine CallOk.call (w_ref01N1 hx4) (LeL.refl _) ?_
 obtain ⟨hc4, h⟩ := chk_some h
 refine ⟨rowsLen_map (f := cU8) (n := 1) (fun _ => rfl) x4, app_b2 (f := cU8) (l := ((([] : List UInt8) ++ x1) ++ x2) ++ x3) (l' := x4) hc4, _, (List.map_append (f := cU8) (l₁ := ((([] : List UInt8) ++ x1) ++ x2) ++ x3) (l₂ := x4)).symm, ?_⟩
 refine wT [(3, .o 5)] [(5, .own 5 1 (mI ((((([] : List UInt8) ++ x1) ++ x2) ++ x3) ++ x4)))] Q1 J1 rfl ?_
 refine sg ?_
 obtain ⟨x5, hx5, h⟩ := bindS h
 refine CallOk.borrow (w_ref02_Of hx5) (.cons (Fz.o rfl) (.nil)) rfl ?_
 refine wT [(3, .o 5), (4, vi x5)] [(5, .own 5 1 (mI ((((([] : List UInt8) ++ x1) ++ x2) ++ x3) ++ x4)))] Q2 J1 rfl ?_
 refine sg ?_
 obtain ⟨hc5, h⟩ := chk_some h
 refine ⟨(by decide), _, rfl, _, toU8_wrap _, (by decide), _, rfl, (by decide), _, rfl, _, toU8_wrap _, (by decide), _, rfl, (by decide), _, rfl, _, toU8_wrap _, (by decide), _, rfl, _, toU8_wrap _, Or.inl ⟨rowsLen_map (f := cU8) (n := 1) (fun _ => rfl) ([toU8 (Int.tmod x5 (256)), toU8 (Int.tmod (quoK .i64 x5 (256)) (256)), toU8 (Int.tmod (quoK .i64 x5 (65536)) (256)), toU8 (quoK .i64 x5 (16777216))]), app_b2 (f := cU8) (l := (((([] : List UInt8) ++ x1) ++ x2) ++ x3) ++ x4) (l' := [toU8 (Int.tmod x5 (256)), toU8 (Int.tmod (quoK .i64 x5 (256)) (256)), toU8 (Int.tmod (quoK .i64 x5 (65536)) (256)), toU8 (quoK .i64 x5 (16777216))]) hc5, _, (List.map_append (f := cU8) (l₁ := (((([] : List UInt8) ++ x1) ++ x2) ++ x3) ++ x4) (l₂ := [toU8 (Int.tmod x5 (256)), toU8 (Int.tmod (quoK .i64 x5 (256)) (256)), toU8 (Int.tmod (quoK .i64 x5 (65536)) (256)), toU8 (quoK .i64 x5 (16777216))])).symm, ?_⟩⟩
 refine wT [(2, .o 5)] [(5, .own 5 1 (mI (((((([] : List UInt8) ++ x1) ++ x2) ++ x3) ++ x4) ++ [toU8 (Int.tmod x5 (256)), toU8 (Int.tmod (quoK .i64 x5 (256)) (256)), toU8 (Int.tmod (quoK .i64 x5 (65536)) (256)), toU8 (quoK .i64 x5 (16777216))])))] Q1 J1 rfl ?_
 refine rt ?_
 cases h
 exact (.inr ⟨_, rfl, rfl⟩)
theorem w_ref25N1 {p_c} {r} (h : ref25_Page p_c = some r) : Pure Tryz.prog 82 [(.a [(vi p_c.Id), (vi p_c.Ver), (.s (mI p_c.Data)), (.s (mU p_c.Sums))])] (.s (mI r)) := (wo_ref25N1 h).pure
theorem w_ref02N2 {p_a} {p_b} {r} (h : ref02_Bytes p_a p_b = some r) : Pure Tryz.prog 81 [(.s (mI p_a)), (.s (mI p_b))] (vb r) := by
 refine po Tryz.tok 26 Tryz.func81 (by kernel_rfl) rfl rfl rfl ?_
 unfold ref02_Bytes at h
 refine wE [(0, .s (mI p_a)), (1, .s (mI p_b))] Q2 ?_
 refine sg ?_
 refine wE [(0, .s (mI p_a)), (1, .s (mI p_b))] Q2 ?_
 refine sq ?_
 refine sg ?_
 refine ⟨_, List.length_map _, fun _ => ⟨_, List.length_map _, fun _ => ?_⟩⟩
 refine wE [(0, .s (mI p_a)), (1, .s (mI p_b)), (10, vb ((p_a.length : Int) != (p_b.length : Int)))] Q3 ?_
 refine cn 10 ((p_a.length : Int) != (p_b.length : Int)) rfl h (fun hb h => ?_) fun hb h => ?_
 ·refine sg ?_
  refine wE [(4, vb false)] Q1 ?_
  refine rt ?_
  cases h
  exact Fz.v
 refine sk ?_
 refine Ok.seqj (fun v1 => ⟨Cat.tab [], []⟩) (fun v1 => ref02N5 v1 = some r) ?_ ?_
 ·refine sg ?_
  refine wE [(0, .s (mI p_a)), (1, .s (mI p_b)), (5, vi (0))] Q3 ?_
  refine bl ?_
  refine Ok.loop (fun (s1 : Int) => ⟨Cat.tab [(0, .s (mI p_a)), (1, .s (mI p_b)), (5, vi s1)], []⟩) (ref02N4 p_a p_b) (s0 := 0) h (wt Q3 Q0 rfl) ?_
  intro s1 y1 hB1 hy1
  unfold ref02N4 at hB1
  refine sq ?_
  refine sg ?_
  refine ⟨_, List.length_map _, fun _ => ?_⟩
  refine wE [(0, .s (mI p_a)), (1, .s (mI p_b)), (5, vi s1), (14, vb (decide (s1 < (p_a.length : Int))))] Q4 ?_
  refine cn 14 (decide (s1 < (p_a.length : Int))) rfl hB1 (fun hb hB1 => ?_) fun hb hB1 => ?_
  ·refine sk ?_
   refine sq ?_
   refine bl ?_
   refine sq ?_
   refine Ok.draw (m := 9) (MD := ⟨[]⟩) (CH := ⟨[]⟩) Tryz.tok Tryz.mixed (by kernel_rfl) ?_
   obtain ⟨x1, hx1, hB1⟩ := bindS hB1
   obtain ⟨x2, hx2, hB1⟩ := bindS hB1
   refine ⟨_, rfl, _, rfl, _, ⟨_, idx_nat hx1, _, idx_row hx1, rfl⟩, _, ⟨_, rfl, rfl⟩, _, rfl, _, rfl, _, ⟨_, idx_nat hx2, _, idx_row hx2, rfl⟩, _, ⟨_, rfl, rfl⟩, _, rfl, Q0, ?_⟩
   refine wE [(0, .s (mI p_a)), (1, .s (mI p_b)), (5, vi s1), (25, vb ((x1.toNat : Int) != (x2.toNat : Int)))] Q4 ?_
   refine cn 25 ((x1.toNat : Int) != (x2.toNat : Int)) rfl hB1 (fun hb hB1 => ?_) fun hb hB1 => ?_
   ·refine sg ?_
    refine wE [(4, vb false)] Q1 ?_
    refine rt ?_
    have hB1 := out_ret hB1 hy1
    cases hB1
    exact Fz.v
   refine sk ?_
   refine rg ?_
   obtain ⟨hc1, hB1⟩ := chk_some hB1
   refine (Or.inl ⟨hc1, ?_⟩)
   exact ⟨_, sj hB1, wt Q3 Q0 rfl⟩
  refine xt ?_
  have hB1 := out_ret hB1 hy1
  exact ⟨_, hB1, wt Q0 Q0 rfl⟩
 intro v1 h
 unfold ref02N5 at h
 refine sg ?_
 refine wE [(4, vb true)] Q1 ?_
 refine rt ?_
 cases h
 exact Fz.v
end Go.Proofs
